/- The waterfall: an estate laid out; walked by the abstract machine. -/
import Derived.Test.YtokmkopihhnggaaGreatDoorWl5M
import Derived.Test.YtokmkopihhnggaaGreatDoorAbVM
import Derived.Test.YtokmkopihhnggaaGreatDoorWp4M
set_option linter.unusedVariables false
set_option linter.unusedSimpArgs false
set_option linter.defProp false
namespace Go.Proofs.YtokmkopihhnggaaGreatDoor
open Go Go.RowKit
theorem tAddO_I (off : Nat) (H : Hp) (ny nm s sz n pn sp : Nat) (E : TypeId) (A B : List C) (t : WT) (c : Int) (x : Rat) (hoff : A.length = off) (hsz : sz ≠ 0) (hnm : H nm = some ⟨s, E, sz, n, tcs A B (.own pn sp t.length 4) (enc (wSum t))⟩) (hp : H pn = some ⟨sp, 230, 4, t.length, flat cWP t⟩) (hne : nm ≠ pn) (F : ∀ k, 3000 ≤ k → k < 3015 → (nm = k) = False ∧ (k = nm) = False ∧ (pn = k) = False ∧ (k = pn) = False) (F1 : nm ≠ 3015)
  (hbH : ∀ y B, H y = some B → y < 3000 ∨ 3015 ≤ y) (hl : t.length ≤ 1000000) (hc : -1 ≤ c ∧ c ≤ 1000000) (h1 : qB 50000000000 (wSum t)) (h2 : qB 50000000000 x) : ACallI Tryz.prog 127 [.one (.ptr nm s off), .one (.lit (.int .i64 c)), .agg (cRat (enc x))] H ny
  (fun res H' _ => res = .tup [] ∧ ∀ y B', up (up (up H pn none) 3015 (some ⟨ny + 2, 230, 4, t.length + 1, flat cWP (t ++ [(c, x)])⟩)) nm (some ⟨s, E, sz, n, tcs A B (.own 3015 (ny + 2) (t.length + 1) 4) (enc (wSum t + x))⟩) y = some B' → H' y = some B') := by
 subst hoff
 exact tAdd_I H ny nm s sz n pn sp E A B t c x hsz hnm hp hne F F1 hbH hl hc h1 h2
theorem tcs_ren (A B : List C) (x y : C) (s : GRat) (k : Nat) (h : A.length = k) : (tcs A B x s).set k y = tcs A B y s := by
 subst h
 unfold tcs
 rw [List.set_append_right _ _ (Nat.le_refl _), Nat.sub_self]
 rfl
theorem tblW_step {E : TypeId} {ps : List (WT × Nat)} {r s' : Nat} {p : WT × Nat} {t' : WT} {H' : Hp} (hp : ps[r]? = some p) (h1 : H' (1000 * (r + 1) + 103) = some ⟨s', E, 4, t'.length, flat cWP t'⟩) (h2 : ∀ i q, i ≠ r → ps[i]? = some q → H' (1000 * (i + 1) + 103) = some ⟨q.2, E, 4, q.1.length, flat cWP q.1⟩) (l : List Nat) :
  ∀ x B, tblW 103 E (ps.set r (t', s')) x = some B → hasN l x = true ∨ H' x = some B := by
 refine tbl_subW (fun i q hq => ?_) l
 have hj : r < ps.length := (List.getElem?_eq_some_iff.1 hp).1
 by_cases hir : i = r
 ·subst hir
  rw [List.getElem?_set_self hj] at hq
  obtain rfl := Option.some.inj hq
  exact h1
 rw [List.getElem?_set_ne (fun e => hir e.symm)] at hq
 exact h2 i q hir hq
theorem eRowW_tcs (ps : List (WT × Nat)) (r : Nat) (p : WT × Nat) (h : ps[r]? = some p) : eRowW (fOwnW 103) ps 0 = tcs (eRowW (fOwnW 103) (ps.take r) 0) (eRowW (fOwnW 103) (ps.drop (r + 1)) (r + 1)) (.own (1000 * (r + 1) + 103) p.2 p.1.length 4) (enc (wSum p.1)) := eRow_splitW (fOwnW 103) ps r p h
theorem eRowW_tcs' (ps : List (WT × Nat)) (r : Nat) (p : WT × Nat) (t' : WT) (s' : Nat) (h : ps[r]? = some p) : tcs (eRowW (fOwnW 103) (ps.take r) 0) (eRowW (fOwnW 103) (ps.drop (r + 1)) (r + 1)) (.own (1000 * (r + 1) + 103) s' t'.length 4) (enc (wSum t')) = eRowW (fOwnW 103) (ps.set r (t', s')) 0 := by
 have hj : r < ps.length := (List.getElem?_eq_some_iff.1 h).1
 have h1 := eRowW_tcs (ps.set r (t', s')) r (t', s') (List.getElem?_set_self hj)
 have e1 : (ps.set r (t', s')).take r = ps.take r := by rw [List.take_set]; exact List.set_eq_of_length_le (by rw [List.length_take]; omega)
 have e2 : (ps.set r (t', s')).drop (r + 1) = ps.drop (r + 1) := by rw [List.drop_set]; simp
 rw [e1, e2] at h1
 exact h1.symm
theorem eRowW_sh : ∀ (ps : List (WT × Nat)) (i : Nat), eRowW fShW ps i = flat cWT (ps.map (·.1))
 | [], _ => rfl
 | p :: ps, i => by rw [List.map_cons, flat_cons, ← eRowW_sh ps (i + 1)]; rfl
theorem tiers8 (nx : Nat) : eRowW fNilW ((List.range 8).map fun j => (([] : WT), nx + j)) 0 = [.lit (.slice none 0 0), .lit (.bool false), .lit (.string bEmpty), .lit (.string bEmpty), .lit (.slice none 0 0), .lit (.bool false), .lit (.string bEmpty), .lit (.string bEmpty), .lit (.slice none 0 0), .lit (.bool false), .lit (.string bEmpty), .lit (.string bEmpty), .lit (.slice none 0 0), .lit (.bool false), .lit (.string bEmpty), .lit (.string bEmpty), .lit (.slice none 0 0), .lit (.bool false), .lit (.string bEmpty), .lit (.string bEmpty), .lit (.slice none 0 0), .lit (.bool false), .lit (.string bEmpty), .lit (.string bEmpty), .lit (.slice none 0 0), .lit (.bool false), .lit (.string bEmpty), .lit (.string bEmpty), .lit (.slice none 0 0), .lit (.bool false), .lit (.string bEmpty), .lit (.string bEmpty)] := by
 have e : enc (wSum []) = ⟨false, bEmpty, bEmpty⟩ := enc_zero
 simp only [List.range, List.range.loop, List.map_cons, List.map_nil, eRowW, fNilW, cRat, e, List.cons_append, List.nil_append]
def rkI (ps : List (WT × Nat)) (cs : List GClaim) (k : Nat) : Prop := ∀ (r : Nat) p, ps[r]? = some p → p.1 ++ wRk (r : Int) (cs.drop k) k = wRk (r : Int) cs 0
theorem rkI_zero (cs : List GClaim) (nx : Nat) : rkI ((List.range 8).map fun j => (([] : WT), nx + j)) cs 0 := fun r p h => by
 rw [List.getElem?_map] at h
 obtain ⟨i, _, rfl⟩ := Option.map_eq_some_iff.1 h
 rw [List.drop_zero, List.nil_append]
theorem rkI_step {ps : List (WT × Nat)} {cs : List GClaim} {k r s' : Nat} {p : WT × Nat} (h : rkI ps cs k) (hk : k < cs.length) (hr : cs[k].rank = (r : Int)) (hp : ps[r]? = some p) : rkI (ps.set r (p.1 ++ [((k : Int), qOf cs[k].amount)], s')) cs (k + 1) := fun i q hq => by
 have hj : r < ps.length := (List.getElem?_eq_some_iff.1 hp).1
 by_cases hir : i = r
 ·subst hir
  rw [List.getElem?_set_self hj] at hq
  obtain rfl := Option.some.inj hq
  have h1 := h i p hp
  rw [List.drop_eq_getElem_cons hk, wRk, if_pos hr] at h1
  rw [← h1]; simp
 rw [List.getElem?_set_ne (fun e => hir e.symm)] at hq
 have h1 := h i q hq
 rw [List.drop_eq_getElem_cons hk, wRk, if_neg (by omega)] at h1
 exact h1
theorem rkI_end {ps : List (WT × Nat)} {cs : List GClaim} (h : rkI ps cs cs.length) (hl : ps.length = 8) : ps.map (·.1) = wRanks cs := by
 refine List.ext_getElem (by rw [List.length_map, hl, wRanks_len]) fun i h1 h2 => ?_
 rw [wRanks_get, List.getElem_map]
 have hi : i < ps.length := by simpa using h1
 have h3 := h i ps[i] (List.getElem?_eq_getElem hi)
 rw [List.drop_length, wRk, List.append_nil] at h3
 exact h3
theorem rkI_mem {ps : List (WT × Nat)} {cs : List GClaim} {k r : Nat} {p : WT × Nat} (h : rkI ps cs k) (hp : ps[r]? = some p) : p.1.length ≤ cs.length ∧ ∀ x ∈ p.1, ∃ c ∈ cs, x.2 = qOf c.amount := by
 have h1 := h r p hp
 have h2 := wRk_len (r : Int) cs 0
 rw [← h1, List.length_append] at h2
 refine ⟨by omega, fun x hx => ?_⟩
 have h3 : x ∈ wRk (r : Int) cs 0 := by rw [← h1]; exact List.mem_append_left _ hx
 exact (wRk_in (r : Int) cs 0 x h3).2.2
def F21 := And.intro zS (And.intro tf20 (And.intro tf21 (And.intro tf55 (And.intro tf23 (And.intro tf24 (And.intro tf70 (And.intro tf56 (And.intro tf26 (And.intro tf27 (And.intro tf29 (And.intro tf30 (And.intro tf71 (And.intro tf72 (And.intro tf73 (And.intro tf31 (And.intro tf32 (And.intro tf74 (And.intro tf33 (And.intro tf34 (And.intro tf75 (And.intro tf18 (And.intro tf12 (And.intro tf76 (And.intro tf66 (And.intro tf38 (And.intro tf77 (And.intro tf35 (And.intro tf36 (And.intro tf39 (And.intro tf78 (And.intro tf69 (tf58))))))))))))))))))))))))))))))))
set_option maxRecDepth 100000 in
set_option maxHeartbeats 4000000 in
theorem Lay_A (e : GEst) (K Km : Nat) (hcs : e.claims.length ≤ 1000) (hag : e.agrs.length ≤ 1000) (hrank : ∀ c ∈ e.claims, 0 ≤ c.rank ∧ c.rank ≤ 7) (ham : ∀ c ∈ e.claims, sB K c.amount) (hK0 : 0 < K) (hKb : K ≤ 10000000) (hA : ∀ a ∈ e.agrs, layB e.claims a K Km) : ACall Tryz.prog 79 [.agg (cEst e)] (.val (.agg (cLay (wLay e)))) := by
 have hkb : K ≤ 10000000 := hKb
 have han := hag
 have hcn := hcs
 refine acall_of Tryz.func79 rfl (by decide) (N := 57) rfl (by simp) (R := [.cell 2 141]) rfl fun en k0 => ?_
 refine awN ?_
 simp only [(id F21), seval, cRat, cEst]
 repeat refine ob ?_
 refine awp_cut2 (M := fun st => ∃ s3 s12 nx, st = ⟨mkT [(1, .val (.one (.ptr 1 0 0))), (2, .val (.one (.ptr 2 1 0))), (3, .val (.one (.ptr 3 s3 0)))], mkH [(12, ⟨s12, 190, 4, 8, [.lit (.slice none 0 0), .lit (.bool false), .lit (.string bEmpty), .lit (.string bEmpty), .lit (.slice none 0 0), .lit (.bool false), .lit (.string bEmpty), .lit (.string bEmpty), .lit (.slice none 0 0), .lit (.bool false), .lit (.string bEmpty), .lit (.string bEmpty), .lit (.slice none 0 0), .lit (.bool false), .lit (.string bEmpty), .lit (.string bEmpty), .lit (.slice none 0 0), .lit (.bool false), .lit (.string bEmpty), .lit (.string bEmpty), .lit (.slice none 0 0), .lit (.bool false), .lit (.string bEmpty), .lit (.string bEmpty), .lit (.slice none 0 0), .lit (.bool false), .lit (.string bEmpty), .lit (.string bEmpty), .lit (.slice none 0 0), .lit (.bool false), .lit (.string bEmpty), .lit (.string bEmpty)]⟩), (1, ⟨0, 36, 5, 1, cEst e⟩), (2, ⟨1, 141, 6, 1, [.lit (.int .i64 0), .lit (.slice none 0 0), .lit (.slice none 0 0), .lit (.bool false), .lit (.string bEmpty), .lit (.string bEmpty)]⟩), (3, ⟨s3, 141, 6, 1, .lit (.int .i64 (e.claims.length : Int)) :: .own 12 s12 8 4 :: .lit (.slice none 0 0) :: [.lit (.bool false), .lit (.string bEmpty), .lit (.string bEmpty)]⟩)], nx, 0⟩) ?_ ?_
 ·
  refine awD (scq [1, 3, 5] (.two 3 5 (scq [9, 10, 12] .nil) (scq [6, 9, 12] .nil))) [none, none, none, none, none, none, none] ?_
  simp only [(id F21), seval, cRat, cEst]
  repeat refine ob ?_
  refine ⟨?_, ?_⟩
  ·
   repeat refine ob ?_
   intro zc zQ hM
   refine awp_wk (wk_keep [1, 2, 3] [12, 1, 2, 3]) (hM _ ⟨?_, ?_, ?_, ?cs2⟩)
   case cs2 => (simp only [(id F21), seval, cEst]; rfl)
  repeat refine ob ?_
  intro zc zQ hM
  refine awp_wk (wk_keep [1, 2, 3] [12, 1, 2, 3]) (hM _ ⟨?_, ?_, ?_, ?cs3⟩)
  case cs3 => (simp only [(id F21), seval, cEst]; rfl)
 rintro st ⟨s3, s12, nx, rfl⟩
 obtain ⟨nxA, hnxA⟩ : ∃ n, nx = n := ⟨_, rfl⟩
 rw [hnxA]
 refine awN ?_
 simp only [(id F21), seval, cRat, cEst]
 repeat refine ob ?_
 refine awp_keep [1, 2, 3, 15, 16, 17] [12, 1, 2, 3] ?_
 try unfold Later
 try simp only [(id F21), seval, cRat, cEst]
 rw [← tiers8 nxA]
 refine awp_wk (wk_nilsW 103 230 190 (by decide) 12 [(1, ⟨0, 36, 5, 1, cEst e⟩), (2, ⟨1, 141, 6, 1, [.lit (.int .i64 0), .lit (.slice none 0 0), .lit (.slice none 0 0), .lit (.bool false), .lit (.string bEmpty), .lit (.string bEmpty)]⟩), (3, ⟨s3, 141, 6, 1, .lit (.int .i64 (e.claims.length : Int)) :: .own 12 s12 8 4 :: .lit (.slice none 0 0) :: [.lit (.bool false), .lit (.string bEmpty), .lit (.string bEmpty)]⟩)] (by simp) (by decide) 8 nxA ((List.range 8).map fun j => (([] : WT), nxA + j)) (fun j p hj => ?_)) ?_
 ·
  rw [List.getElem?_map] at hj
  obtain ⟨i, hi, rfl⟩ := Option.map_eq_some_iff.1 hj
  obtain rfl : j = i := by obtain ⟨h1, h2⟩ := List.getElem?_eq_some_iff.1 hi; simpa using h2
  exact ⟨rfl, rfl⟩
 have e0 : cRat (enc 0) = [.lit (.bool false), .lit (.string bEmpty), .lit (.string bEmpty)] := enc0_cells
 repeat' first|apply awS|apply awB
 refine awp_loopw (fun n st => ∃ k ps q nx, k ≤ e.claims.length ∧ n = e.claims.length - k ∧ ps.length = 8 ∧ rkI ps e.claims k ∧ q + wTotal (e.claims.drop k) = wTotal e.claims ∧ qB (1 + k * (K + 1)) q ∧ st = ⟨mkT [(1, .val (.one (.ptr 1 0 0))), (2, .val (.one (.ptr 2 1 0))), (3, .val (.one (.ptr 3 s3 0))), (15, .val (.one (.sh 5 e.claims.length (flat cClaim e.claims)))), (16, one (.int .i64 e.claims.length)), (17, one (.int .i64 k))], mkOn (tblW 103 230 ps) [(12, ⟨s12, 190, 4, 8, eRowW (fOwnW 103) ps 0⟩), (1, ⟨0, 36, 5, 1, cEst e⟩), (2, ⟨1, 141, 6, 1, [.lit (.int .i64 0), .lit (.slice none 0 0), .lit (.slice none 0 0), .lit (.bool false), .lit (.string bEmpty), .lit (.string bEmpty)]⟩), (3, ⟨s3, 141, 6, 1, .lit (.int .i64 (e.claims.length : Int)) :: .own 12 s12 8 4 :: .lit (.slice none 0 0) :: cRat (enc q)⟩)], nx, 0⟩) (e.claims.length) ⟨0, ((List.range 8).map fun j => (([] : WT), nxA + j)), 0, _, by omega, by omega, by simp, rkI_zero _ _, by rw [List.drop_zero]; grind, qB_zero.mono (by omega), by rw [enc0_cells]; first | done | rfl⟩ ?_
 rintro n0 st ⟨k, ps, q, nx0, hk, rfl, hpl8, hrk, htt, hqB, rfl⟩
 by_cases hlt0 : (k : Int) < (e.claims.length : Int)
 ·
  refine awN ?_
  simp only [(id F21), seval, cRat, hlt0]
  repeat refine ob ?_
  refine awT ?_
  refine awK ?_
  simp only [(id F21), seval]
  have hkl : k < e.claims.length := by omega
  have hat := flat_at cClaim_len e.claims k hkl
  obtain ⟨c, hck⟩ : ∃ c, e.claims[k] = c := ⟨_, rfl⟩
  have hcm : c ∈ e.claims := hck ▸ List.getElem_mem hkl
  have hca := ham c hcm
  have hcr := hrank c hcm
  rw [hck] at hat
  refine awN ?_
  simp only [(id F21), seval, cRat, hlt0, hat, cClaim]
  repeat refine ob ?_
  have hA0 := aAdd c.amount gZ K 1 hca ⟨by decide, by decide⟩ (by omega) (by decide) hK0 (by decide)
  rw [qOf_gZ, Rat.add_zero] at hA0
  simp only [cRat, gZ] at hA0
  refine awN ?_
  simp only [(id F21), seval, cRat, hlt0, cClaim]
  repeat refine ob ?_
  refine ⟨_, hA0, (by first | rfl | simp [allA, pure1, pureCs, pureC, A1.cells, cPool, flat_pure cPool_pure, flat_pure cWT_pure, flat_pure cI_pure]), ?_⟩
  try unfold Later
  try simp only [(id F21), seval, cRat, hlt0, cClaim]
  repeat refine ob ?_
  obtain ⟨r, hr⟩ : ∃ r : Nat, c.rank = (r : Int) := ⟨c.rank.toNat, by omega⟩
  have hr8 : r < 8 := by omega
  have hrt : c.rank.toNat = r := by omega
  obtain ⟨p, hp⟩ : ∃ p, ps[r]? = some p := ⟨_, List.getElem?_eq_getElem (by omega)⟩
  obtain ⟨hpl, hpm⟩ := rkI_mem hrk hp
  have hsp := eRowW_tcs ps r p hp
  have hAl : (eRowW (fOwnW 103) (ps.take r) 0).length = r * 4 := by rw [eRow_lenW, List.length_take]; congr 1; omega
  have hBl : (eRowW (fOwnW 103) (ps.drop (r + 1)) (r + 1)).length = (7 - r) * 4 := by rw [eRow_lenW, List.length_drop]; congr 1; omega
  have hpq : ∀ x ∈ p.1, qB K x.2 := fun x hx => by obtain ⟨d, h1, h2⟩ := hpm x hx; rw [h2]; exact (ham d h1).qB hK0
  have hSm : qB 50000000000 (wSum p.1) := (wSum_qB p.1 hpq).mono (by have := Nat.mul_le_mul (show p.1.length ≤ 1000 by omega) (show K + 1 ≤ 10000001 by omega); omega)
  rw [hsp]
  repeat' first|apply awS|apply awB
  refine awp_drawsI [33] (by kernel_rfl) (.cons 0 true (.cons 1 true (.cons 2 true (.cons 3 true (.cons 4 true (.cons 5 true (.cons 6 true (.cons 7 false .nil)))))))) (by kernel_rfl) (gs := [none, none, none, none, none, none, none, none]) (by kernel_rfl) (by simp only [(id zS), seval]; rfl) (by decide) ?_
  simp only [(id F21), seval, cRat, hlt0, cClaim, hrt, hAl, hBl, tcs_len, (id SD)]
  repeat refine ob ?_
  refine ⟨_, tAddO_I (r * 4) _ _ 12 s12 4 8 (1000 * (r + 1) + 103) p.2 190 _ _ p.1 (k : Int) (qOf c.amount) hAl (by decide) (by rfl) (by simp only [up_apply]; (repeat rw [if_neg (by omega)]); exact tbl_atW (by decide) hp) (by omega) (fun j h1 h2 => by refine ⟨?_, ?_, ?_, ?_⟩ <;> (simp; try omega)) (by decide) (fun y B h => ?_) (by omega) (by omega) hSm ((hca.qB hK0).mono (by omega)), ?_⟩
  ·
   by_cases hy : y < 3000 ∨ 3015 ≤ y
   ·
    exact hy
   exfalso
   simp only [up_apply] at h
   repeat rw [if_neg (by omega)] at h
   obtain ⟨i, q, rfl, _, _⟩ := tbl_someW h
   omega
  rintro res H' nx' ⟨rfl, hW⟩
  simp only [(id F21), seval, (id SD)]
  repeat refine ob ?_
  refine awp_weak hW ?_
  refine awp_ren 3015 (1000 * (r + 1) + 103) 12 (r * 4) (s := _) (n := p.1.length + 1) (sz := 4) (B := ⟨_, 230, 4, p.1.length + 1, flat cWP (p.1 ++ [((k : Int), qOf c.amount)])⟩) (by rfl) (B2 := ⟨s12, 190, 4, 8, _⟩) (by rfl) (by show (tcs _ _ _ _)[r * 4]? = _; rw [← hAl]; exact tcs_get _ _ _ _) (by decide) (by omega) (by show (4 : Nat) ≠ 0; decide) (by show (4 : Nat) ≠ 0; decide) rfl ?_
  obtain ⟨nx9, hnx9⟩ : ∃ n, nx' = n := ⟨_, rfl⟩
  have hset : (tcs (eRowW (fOwnW 103) (ps.take r) 0) (eRowW (fOwnW 103) (ps.drop (r + 1)) (r + 1)) (.own 3015 (nx0 + 2 + 2) (p.1.length + 1) 4) (enc (wSum p.1 + qOf c.amount))).set (r * 4) (.own (1000 * (r + 1) + 103) nx9 (p.1.length + 1) 4) = eRowW (fOwnW 103) (ps.set r (p.1 ++ [((k : Int), qOf c.amount)], nx9)) 0 := by
   rw [tcs_ren _ _ _ _ _ _ hAl, ← eRowW_tcs' ps r p (p.1 ++ [((k : Int), qOf c.amount)]) nx9 hp, wSum_snoc, List.length_append]
   try rfl
  refine awp_on (tblW 103 230 (ps.set r (p.1 ++ [((k : Int), qOf c.amount)], nx9))) [1, 2, 3, 6, 15, 16, 17] [12, 1, 2, 3, 6] (tblW_step hp (by simp only [hnx9, up_apply]; (repeat rw [if_neg (by omega)]); rw [if_pos trivial]; simp) (fun i q hi hq => by simp only [up_apply]; (repeat rw [if_neg (by omega)]); exact tbl_atW (by decide) hq) _) ?_
  have F9 : ∀ j, j < 1000 → ((1000 * (r + 1) + 103 = j) = False ∧ (j = 1000 * (r + 1) + 103) = False) := fun j hj => ⟨by simp; omega, by simp; omega⟩
  simp only [(id F21), seval, hnx9, hset]
  have hT := aAddQ q (qOf c.amount) _ K hqB (hca.qB hK0) (by have := Nat.mul_le_mul (show k ≤ 1000 by omega) (show K + 1 ≤ 10000001 by omega); omega) (by omega)
  simp only [cRat] at hT
  have hqn : qB (1 + (k + 1) * (K + 1)) (q + qOf c.amount) := (hqB.add (hca.qB hK0)).mono (by rw [Nat.succ_mul]; omega)
  refine awN ?_
  simp only [(id F21), seval, cRat, hlt0]
  repeat refine ob ?_
  refine ⟨_, hT, (by first | rfl | simp [allA, pure1, pureCs, pureC, A1.cells, cPool, flat_pure cPool_pure, flat_pure cWT_pure, flat_pure cI_pure]), ?_⟩
  try unfold Later
  try simp only [(id F21), seval, cRat, hlt0]
  repeat refine ob ?_
  refine awN ?_
  simp only [(id F21), seval, cRat, hlt0]
  repeat refine ob ?_
  repeat refine ob ?_
  refine ⟨_, wk_on (tblW 103 230 (ps.set r (p.1 ++ [((k : Int), qOf c.amount)], nx9))) [1, 2, 3, 15, 16, 17] [12, 1, 2, 3] (tbl_subW (fun i q hq => by simp only [up_apply]; (repeat rw [if_neg (by omega)]); exact tbl_atW (by decide) hq) _), e.claims.length - (k + 1), by omega, k + 1, (ps.set r (p.1 ++ [((k : Int), qOf c.amount)], nx9)), q + qOf c.amount, ?nn12, by omega, rfl, by rw [List.length_set]; exact hpl8, by rw [← hck] at hr ⊢; exact rkI_step hrk hkl hr hp, ?tt12, hqn, ?st12⟩
  case st12 => (simp only [(id F21), seval]; first | rfl | (simp; done))
  case tt12 => (rw [List.drop_eq_getElem_cons hkl, wTotal, hck] at htt; grind)
 refine awN ?_
 simp only [(id F21), seval, cRat, hlt0]
 repeat refine ob ?_
 refine awF ?_
 refine awQ ?_
 simp only [(id F21), seval]
 obtain rfl : k = e.claims.length := by omega
 have hrk9 := rkI_end hrk hpl8
 refine awp_on (tblW 103 230 ps) [1, 2, 3, 15, 16, 17] [12, 1, 2, 3] (tbl_subW (fun i q hq => by simp only [up_apply]; (repeat rw [if_neg (by omega)]); exact tbl_atW (by decide) hq) _) ?_
 simp only [(id F21), seval]
 refine awp_wk (wk_pubsW 103 230 190 (by decide) 12 [(1, ⟨0, 36, 5, 1, cEst e⟩), (2, ⟨1, 141, 6, 1, [.lit (.int .i64 0), .lit (.slice none 0 0), .lit (.slice none 0 0), .lit (.bool false), .lit (.string bEmpty), .lit (.string bEmpty)]⟩), (3, ⟨s3, 141, 6, 1, .lit (.int .i64 (e.claims.length : Int)) :: .own 12 s12 8 4 :: .lit (.slice none 0 0) :: cRat (enc q)⟩)] (by simp) (by decide) 8 _ ps) ?_
 rw [eRowW_sh, hrk9]
 simp only [(id F21), seval]
 refine awp_pubc 12 3 1 (by rfl) (by rfl) (by rfl) (by decide) (by show (4 : Nat) ≠ 0; decide) (by show (6 : Nat) ≠ 0; decide) rfl ?_
 simp only [(id F21), seval]
 refine awN ?_
 simp only [(id F21), seval, cRat, hlt0, cEst]
 repeat refine ob ?_
 refine awp_nilc 3 2 53 _ 193 2 (by decide) (by rfl) (by decide) (by simp) (by rfl) ?_
 refine awp_keep [1, 2, 3, 41, 42, 43] [1, 2, 3, 53] ?_
 try unfold Later
 try simp only [(id F21), seval, cRat, hlt0, cEst, flat_snoc, cPool, List.length_append, List.length_cons, List.length_nil]
 repeat' first|apply awS|apply awB
 refine awp_loopw (fun n st => ∃ i1 out sp nx, i1 ≤ e.agrs.length ∧ n = e.agrs.length - i1 ∧ out ++ List.map (wPool e.claims) (e.agrs.drop i1) = [] ++ List.map (wPool e.claims) e.agrs ∧ out.length = i1 ∧ st = ⟨mkT [(1, .val (.one (.ptr 1 0 0))), (2, .val (.one (.ptr 2 1 0))), (3, .val (.one (.ptr 3 s3 0))), (41, .val (.one (.sh 1 e.agrs.length (flat cAgr e.agrs)))), (42, one (.int .i64 e.agrs.length)), (43, one (.int .i64 i1))], mkH [(1, ⟨0, 36, 5, 1, cEst e⟩), (2, ⟨1, 141, 6, 1, [.lit (.int .i64 0), .lit (.slice none 0 0), .lit (.slice none 0 0), .lit (.bool false), .lit (.string bEmpty), .lit (.string bEmpty)]⟩), (3, ⟨s3, 141, 6, 1, .lit (.int .i64 (e.claims.length : Int)) :: .sh 4 8 (flat cWT (wRanks e.claims)) :: .own 53 sp out.length 2 :: cRat (enc q)⟩), (53, ⟨sp, 193, 2, out.length, flat cPool out⟩)], nx, 0⟩) (e.agrs.length) ⟨0, [], _, _, by omega, by omega, by rfl, (by first | omega | assumption | rfl | simp | (simp; omega)), rfl⟩ ?_
 rintro n1 st ⟨i1, out, sp, nx1, hk1, rfl, hL1, hV1_1, rfl⟩
 by_cases hlt1 : i1 < e.agrs.length
 ·
  have hI1 : (i1 : Int) < (e.agrs.length : Int) := by omega
  have hat1 := flat_at cAgr_len e.agrs i1 hlt1
  try rw [Nat.mul_one] at hat1
  rw [List.drop_eq_getElem_cons hlt1] at hL1
  have hla := hA _ (List.getElem_mem hlt1)
  generalize e.agrs[i1] = a at *
  simp only [List.map_cons, List.map_nil, List.append_nil] at hL1
  refine awN ?_
  simp only [(id F21), seval, cRat, hlt0, hI1, hat1]
  repeat refine ob ?_
  refine awT ?_
  refine awK ?_
  simp only [(id F21), seval]
  refine awN ?_
  simp only [(id F21), seval, cRat, hlt0, hI1, hat1, cAgr]
  repeat refine ob ?_
  have hLy := lay_A e a K Km hla
  refine awD (scT 0 4 (scq [8, 10, 12, 15, 16] .nil)) [none, none, none, none, none, none, none, none, none] ?_
  simp only [(id F21), seval, cRat, hlt0, hI1, hat1, cEst, cAgr, cPool, flat_pure cClaim_pure, flat_pure cAgr_pure, flat_pure cTier_pure]
  repeat refine ob ?_
  refine ⟨_, hLy, (by first | rfl | simp [allA, pure1, pureCs, pureC, A1.cells, cPool, flat_pure cPool_pure, flat_pure cWT_pure, flat_pure cI_pure]), ?_⟩
  try unfold Later
  try simp only [(id F21), seval, cRat, hlt0, hI1, hat1, cEst, cAgr, cPool, flat_pure cClaim_pure, flat_pure cAgr_pure, flat_pure cTier_pure]
  repeat refine ob ?_
  refine awN ?_
  simp only [(id F21), seval, cRat, hlt0, hI1, hat1]
  repeat refine ob ?_
  repeat refine ob ?_
  refine ⟨_, wk_keep [1, 2, 3, 41, 42, 43] [1, 2, 3, 53], e.agrs.length - (i1 + 1), by omega, i1 + 1, (out ++ [wPool e.claims a]), ?a18_sp, ?a18_nx, by omega, rfl, ?i18_0, ?i18_1, ?st18⟩
  case st18 => (simp only [(id F21), seval, cEst, flat_snoc, cPool, List.length_append, List.length_cons, List.length_nil, cRat, hlt0, hI1, hat1]; first | rfl | (simp [cEst, flat_snoc, cPool, List.length_append, List.length_cons, List.length_nil, hlt0, hI1, hat1, Nat.add_mul]; done))
  case i18_0 => (simpa using hL1)
  case i18_1 => (first | omega | assumption | (simp; omega) | (simp_all; done))
 obtain rfl : i1 = e.agrs.length := by omega
 have hI1 : ¬ (e.agrs.length : Int) < (e.agrs.length : Int) := by omega
 rw [List.drop_length] at hL1
 simp only [List.map_cons, List.map_nil, List.append_nil] at hL1
 subst hL1
 refine awN ?_
 simp only [(id F21), seval, cRat, hlt0, hI1]
 repeat refine ob ?_
 refine awF ?_
 refine awQ ?_
 simp only [(id F21), seval]
 refine awp_pubc 53 3 2 (by rfl) (by rfl) (by rfl) (by decide) (by show (2 : Nat) ≠ 0; decide) (by show (6 : Nat) ≠ 0; decide) rfl ?_
 simp only [(id F21), seval]
 refine awN ?_
 simp only [(id F21), seval, cRat, hlt0, hI1]
 repeat refine ob ?_
 refine awX ?_
 simp only [(id F21), seval, flat_pure cPool_pure, flat_pure cWT_pure]
 have hq9 : q = wTotal e.claims := by rw [List.drop_length] at htt; simp only [wTotal] at htt; grind
 simp [cLay, wLay, hq9, wRanks_len, cRat]
theorem res_start {κ : Kx} {vs : List Value} (x : C) (h : denVs κ vs [x, .lit (.bool false), .lit (.string bEmpty), .lit (.string bEmpty)]) : denVs κ vs (x :: cRat (enc 0)) := by
 rw [enc0_cells]; exact h
theorem zeros_B (n : Nat) : (⟨List.replicate n 0, 0⟩ : WR).B 1 := ⟨fun x hx => by rw [List.eq_of_mem_replicate hx]; exact qB_zero, qB_zero⟩
def F22 := And.intro zS (And.intro tf51 (tf39))
set_option maxRecDepth 100000 in
set_option maxHeartbeats 4000000 in
theorem cloneRats_I (l : List Rat) (n9 : Nat) (hn9 : l.length = n9) (hl : l.length ≤ 1000000) (H : Hp) (ny : Nat) (hbH : ∀ y B, H y = some B → y < 41) : ACallI Tryz.prog 165 [.one (.sh 3 n9 (flat cQ l))] H ny
  (fun res H' _ => ∃ s, res = .val (.one (.own 48 s n9 3)) ∧ H' = mkOn H [(48, ⟨s, 32, 3, n9, flat cQ l⟩)]) := by
 subst hn9
 refine acallI_of 41 Tryz.func165 rfl (by decide) (N := 8) rfl (by simp) (Rl := [.tmp 2]) rfl fun en k0 => ?_
 refine awN ?_
 simp only [(id F22), seval]
 repeat refine ob ?_
 repeat' first|apply awS|apply awB
 refine awp_regionN [] (gs := [none, none]) (by rfl) (by kernel_rfl) (by decide) ?_
 simp only [(id F22), seval, (id SF)]
 repeat refine ob ?_
 intro b hb
 cases b
 ·repeat' first|apply awS|apply awB
  refine awF ?_
  refine awK ?_
  simp only [(id F22), seval]
  repeat' first|apply awS|apply awB
  refine awp_regionB [] (gs := [none, none, none, none]) (by rfl) (by kernel_rfl) (by decide) ?_
  simp only [(id F22), seval, flat_length cQ_len, (id SD)]
  repeat refine ob ?_
  refine awp_on H [2] [48] (by intro y B h; right; have h9 := hbH y B h; simp only [up_apply]; (repeat rw [if_neg (by omega)]); exact h) ?_
  simp only [(id F22), seval]
  refine awX ?_
  simp only [(id F22), seval]
  try simp
 have h0 := hb rfl
 obtain rfl := List.eq_nil_of_length_eq_zero h0
 refine awT ?_
 refine awN ?_
 simp only [(id F22), seval]
 repeat refine ob ?_
 refine awp_nil 2 48 32 3 (by decide) (by rfl) ?_
 refine awp_on H [2] [48] (by intro y B h; right; have h9 := hbH y B h; simp only [up_apply]; (repeat rw [if_neg (by omega)]); exact h) ?_
 simp only [(id F22), seval]
 refine awX ?_
 simp only [(id F22), seval]
 simp [flat_nil]
def F23 := And.intro zS (And.intro tf51 (And.intro tf79 (And.intro tf71 (And.intro tf52 (And.intro tf54 (And.intro tf18 (And.intro tf12 (And.intro tf66 (And.intro tf80 (And.intro tf39 (tf81)))))))))))
set_option maxRecDepth 100000 in
set_option maxHeartbeats 4000000 in
theorem lGross_A (L : WL) (m : Rat) (K Sm M Z : Nat) (hn : L.count ≤ 1000000) (hl : wOK K Sm L.ranks) (hin : ∀ t ∈ L.ranks, wIn L.count t) (hM : qB M m) (hZ : K + (M + L.ranks.length * (Sm + 1)) + Sm ≤ Z) (hB : 1 + wN L.ranks * (Z + 1) ≤ 50000000000) (hZb : Z ≤ 40000000000) : ACall Tryz.prog 129 [.agg (cLay L), .agg (cRat (enc m))] (.val (.one (.sh 3 L.count (flat cQ (wGross L m))))) := by
 refine acall_of Tryz.func129 rfl (by decide) (N := 20) rfl (by simp) (R := [.tmp 4]) rfl fun en k0 => ?_
 refine awN ?_
 simp only [(id F23), seval, cRat, cLay]
 repeat refine ob ?_
 refine awp_nb 40 ?_
 dsimp only
 refine awN ?_
 simp only [(id F23), seval, cRat, cLay, repl_cQ]
 repeat refine ob ?_
 refine awp_wk (wk_cells 50 (.own 48 2 L.count 3 :: cRat (enc 0)) (by rfl) (by show (4 : Nat) ≠ 0; decide) (by rfl) (fun κ vs h => res_start _ h)) ?_
 simp only [(id F23), seval]
 refine awR [15] [none, none, none, none, none] ?_
 simp only [(id F23), seval, cRat, cLay, flat_pure cWT_pure]
 repeat refine ob ?_
 refine ⟨_, pay_I _ _ 3 2 L.count ⟨List.replicate L.count 0, 0⟩ L.ranks m K Sm M 1 Z (by rfl) (by rfl) (by simp) (fun y B h => ?_) hn hl hin hM (zeros_B _) hZ hB hZb, ?_⟩
 ·
  simp only [up_apply] at h
  repeat (split at h; · omega)
  cases h
 rintro res H' nx' ⟨rfl, hW⟩
 simp only [(id F23), seval]
 repeat refine ob ?_
 refine awp_weak hW ?_
 simp only [(id F23), seval]
 refine awp_pubc 48 50 0 (by rfl) (by rfl) (by rfl) (by decide) (by show (3 : Nat) ≠ 0; decide) (by show (4 : Nat) ≠ 0; decide) rfl ?_
 simp only [(id F23), seval]
 refine awN ?_
 simp only [(id F23), seval, cRat, flat_pure cQ_pure]
 repeat refine ob ?_
 refine awX ?_
 (first | (simp only [(id F23), seval, cRat, flat_pure cQ_pure, wGross]; done) | (simp only [(id F23), seval, cRat]; first | (simp [flat_pure cQ_pure, wGross]; done)))
def F24 := And.intro zS (And.intro tf50 (And.intro tf22 (And.intro tf82 (And.intro tf51 (And.intro tf7 (And.intro tf70 (And.intro tf72 (And.intro tf63 (And.intro tf52 (And.intro tf54 (And.intro tf64 (And.intro tf74 (And.intro tf18 (And.intro tf12 (And.intro tf67 (And.intro tf38 (And.intro tf80 (And.intro tf39 (And.intro tf69 (tf81))))))))))))))))))))
set_option maxRecDepth 100000 in
set_option maxHeartbeats 4000000 in
theorem take_I (L : WL) (g : List Rat) (H : Hp) (ny : Nat) (hgl : g.length = L.count) (hn : L.count ≤ 1000000) (hpn0 : L.pools.length ≤ 1000) (hmem : ∀ p ∈ L.pools, p.1.length ≤ 1000 ∧ ∀ i ∈ p.1, 0 ≤ i ∧ i < (L.count : Int)) (hbH : ∀ y B, H y = some B → y < 37) : ACallI Tryz.prog 130 [.agg (cLay L), .one (.sh 3 L.count (flat cQ g))] H ny
  (fun res H' _ => ∃ s sc, res = .val (.one (.ptr 50 s 0)) ∧ H' = mkOn H [(50, ⟨s, 200, 4, 1, .own 48 sc L.count 3 :: cRat (enc 0)⟩), (48, ⟨sc, 32, 3, L.count, flat cQ (wTake L.pools g)⟩)]) := by
 refine acallI_of 37 Tryz.func130 rfl (by decide) (N := 38) rfl (by simp) (Rl := [.tmp 4]) rfl fun en k0 => ?_
 refine awN ?_
 simp only [(id F24), seval, cRat, cLay]
 repeat refine ob ?_
 refine awR [11] [none, none, none, none, none] ?_
 simp only [(id F24), seval, cRat, flat_pure cQ_pure]
 repeat refine ob ?_
 refine ⟨_, cloneRats_I g L.count hgl (by omega) _ _ (fun y B h => ?_), ?_⟩
 ·
  simp only [up_apply] at h
  repeat (split at h; · omega)
  have h9 := hbH y B h
  omega
 rintro res H' nx' ⟨sc, rfl, rfl⟩
 simp only [(id F24), seval]
 repeat refine ob ?_
 refine awp_wk (wk_cells 50 (.own 48 sc L.count 3 :: cRat (enc 0)) (by rfl) (by show (4 : Nat) ≠ 0; decide) (by rfl) (fun κ vs h => res_start _ h)) ?_
 simp only [(id F24), seval]
 obtain ⟨s, hs⟩ : ∃ n, nx' = n := ⟨_, rfl⟩
 simp only [hs]
 refine awN ?_
 simp only [(id F24), seval, cRat, cLay]
 repeat refine ob ?_
 refine awp_on H [5, 15, 16, 17] [50, 48] (fun y B h => by right; have h9 := hbH y B h; simp only [up_apply]; (repeat rw [if_neg (by omega)]); exact h) ?_
 try unfold Later
 try simp only [(id F24), seval, cRat]
 repeat' first|apply awS|apply awB
 refine awp_loopw (fun n st => ∃ i0 X nx, i0 ≤ L.pools.length ∧ n = L.pools.length - i0 ∧ wTake (L.pools.drop i0) X = wTake L.pools g ∧ X.length = L.count ∧ st = ⟨mkT [(5, .val (.one (.ptr 50 s 0))), (15, .val (.one (.sh 2 L.pools.length (flat cPool L.pools)))), (16, one (.int .i64 L.pools.length)), (17, one (.int .i64 i0))], mkOn H [(50, ⟨s, 200, 4, 1, .own 48 sc L.count 3 :: cRat (enc 0)⟩), (48, ⟨sc, 32, 3, L.count, flat cQ X⟩)], nx, 37⟩) (L.pools.length) ⟨0, g, _, by omega, by omega, by rfl, (by first | omega | assumption | rfl | simp | (simp; omega)), rfl⟩ ?_
 rintro n0 st ⟨i0, X, nx0, hk0, rfl, hL0, hV0_1, rfl⟩
 by_cases hlt0 : i0 < L.pools.length
 ·
  have hI0 : (i0 : Int) < (L.pools.length : Int) := by omega
  have hat0 := flat_at cPool_len L.pools i0 hlt0
  try rw [Nat.mul_one] at hat0
  rw [List.drop_eq_getElem_cons hlt0] at hL0
  have hpm := hmem _ (List.getElem_mem hlt0)
  have hX := hV0_1
  generalize L.pools[i0] = p at *
  simp only [wTake] at hL0
  refine awN ?_
  simp only [(id F24), seval, cRat, hI0, hat0]
  repeat refine ob ?_
  refine awT ?_
  refine awK ?_
  simp only [(id F24), seval]
  refine awN ?_
  simp only [(id F24), seval, cRat, hI0, hat0, cPool]
  repeat refine ob ?_
  refine awN ?_
  simp only [(id F24), seval, cRat, hI0, hat0, cPool]
  repeat refine ob ?_
  have hpn := hpm.1
  refine awp_on H [5, 15, 16, 17, 22, 23, 24] [50, 48] (fun y B h => by right; have h9 := hbH y B h; simp only [up_apply]; (repeat rw [if_neg (by omega)]); exact h) ?_
  try unfold Later
  try simp only [(id F24), seval, cRat, hI0, hat0, List.length_set]
  repeat' first|apply awS|apply awB
  refine awp_loopw (fun n st => ∃ i1 X2 nx, i1 ≤ p.1.length ∧ n = p.1.length - i1 ∧ wZero (p.1.drop i1) X2 = wZero p.1 X ∧ X2.length = L.count ∧ st = ⟨mkT [(5, .val (.one (.ptr 50 s 0))), (15, .val (.one (.sh 2 L.pools.length (flat cPool L.pools)))), (16, one (.int .i64 L.pools.length)), (17, one (.int .i64 i0)), (22, .val (.one (.sh 1 p.1.length (flat cI p.1)))), (23, one (.int .i64 p.1.length)), (24, one (.int .i64 i1))], mkOn H [(50, ⟨s, 200, 4, 1, .own 48 sc L.count 3 :: cRat (enc 0)⟩), (48, ⟨sc, 32, 3, L.count, flat cQ X2⟩)], nx, 37⟩) (p.1.length) ⟨0, X, _, by omega, by omega, by rfl, (by first | omega | assumption | rfl | simp | (simp; omega)), rfl⟩ ?_
  rintro n1 st ⟨i1, X2, nx1, hk1, rfl, hL1, hV1_1, rfl⟩
  by_cases hlt1 : i1 < p.1.length
  ·
   have hI1 : (i1 : Int) < (p.1.length : Int) := by omega
   have hat1 := flat_at cI_len p.1 i1 hlt1
   try rw [Nat.mul_one] at hat1
   rw [List.drop_eq_getElem_cons hlt1] at hL1
   have hxx := hpm.2 _ (List.getElem_mem hlt1)
   have hX2 := hV1_1
   generalize p.1[i1] = x at *
   simp only [wZero] at hL1
   refine awN ?_
   simp only [(id F24), seval, cRat, hI0, hat0, hI1, hat1]
   repeat refine ob ?_
   refine awT ?_
   refine awK ?_
   simp only [(id F24), seval]
   refine awN ?_
   simp only [(id F24), seval, cRat, hI0, hat0, hI1, hat1, cI]
   repeat refine ob ?_
   obtain ⟨k, hxk⟩ : ∃ k : Nat, x = (k : Int) := ⟨x.toNat, by omega⟩
   have hkl : k < X2.length := by omega
   have hkt : x.toNat = k := by omega
   have hset := flat_set cQ_len X2 k 0 hkl
   simp only [cQ, enc0_cells] at hset
   have hfl := flat_length cQ_len X2
   rw [hX2] at hfl
   refine awN ?_
   simp only [(id F24), seval, cRat, hI0, hat0, hI1, hat1, hkt, hset, hfl]
   repeat refine ob ?_
   refine awN ?_
   simp only [(id F24), seval, cRat, hI0, hat0, hI1, hat1]
   repeat refine ob ?_
   repeat refine ob ?_
   refine ⟨_, wk_on H [5, 15, 16, 17, 22, 23, 24] [50, 48] (fun y B h => by right; have h9 := hbH y B h; simp only [up_apply]; (repeat rw [if_neg (by omega)]); exact h), p.1.length - (i1 + 1), by omega, i1 + 1, (X2.set k 0), ?a10_nx, by omega, rfl, ?i10_0, ?i10_1, ?st10⟩
   case st10 => (simp only [(id F24), seval, List.length_set, cRat, hI0, hat0, hI1, hat1]; first | rfl | (simp [List.length_set, hI0, hat0, hI1, hat1, Nat.add_mul]; done))
   case i10_0 => (rw [hkt] at hL1; exact hL1)
   case i10_1 => (first | omega | assumption | (simp; omega) | (simp_all; done))
  obtain rfl : i1 = p.1.length := by omega
  have hI1 : ¬ (p.1.length : Int) < (p.1.length : Int) := by omega
  rw [List.drop_length] at hL1
  simp only [wZero] at hL1
  refine awN ?_
  simp only [(id F24), seval, cRat, hI0, hat0, hI1]
  repeat refine ob ?_
  refine awF ?_
  refine awQ ?_
  simp only [(id F24), seval]
  refine awN ?_
  simp only [(id F24), seval, cRat, hI0, hat0, hI1]
  repeat refine ob ?_
  repeat refine ob ?_
  refine ⟨_, wk_on H [5, 15, 16, 17] [50, 48] (fun y B h => by right; have h9 := hbH y B h; simp only [up_apply]; (repeat rw [if_neg (by omega)]); exact h), L.pools.length - (i0 + 1), by omega, i0 + 1, (X2), ?a13_nx, by omega, rfl, ?i13_0, ?i13_1, ?st13⟩
  case st13 => (simp only [(id F24), seval, cRat, hI0, hat0, hI1]; first | rfl | (simp [hI0, hat0, hI1, Nat.add_mul]; done))
  case i13_0 => (first | exact hL0 | (rw [← hL0]; simp [hI0, hat0, hI1, ← hL1]; done) | (rw [← hL0]; simp only [reduceIte, hI0, hat0, hI1]; done) | (rw [← hL0]; simp [hI0, hat0, hI1]; done) | (simp [hI0, hat0, hI1] at hL0; simpa using hL0) | (rw [← hL0]; simp [*]; done))
  case i13_1 => (first | omega | assumption | (simp; omega) | (simp_all; done))
 obtain rfl : i0 = L.pools.length := by omega
 have hI0 : ¬ (L.pools.length : Int) < (L.pools.length : Int) := by omega
 rw [List.drop_length] at hL0
 simp only [wTake] at hL0
 refine awN ?_
 simp only [(id F24), seval, cRat, hI0]
 repeat refine ob ?_
 refine awF ?_
 refine awQ ?_
 simp only [(id F24), seval]
 refine awN ?_
 simp only [(id F24), seval, cRat, hI0]
 repeat refine ob ?_
 simp only [(id F24), seval, hL0]
 refine awp_on H [4] [50, 48] (fun y B h => by right; have h9 := hbH y B h; simp only [up_apply]; (repeat rw [if_neg (by omega)]); exact h) ?_
 simp only [(id F24), seval, ← hL0]
 refine awX ?_
 simp only [(id F24), seval]
 first | exact ⟨_, _, rfl, rfl⟩ | simp
structure delB (L : WL) (K Sm M Z G K2 S2 Z2 : Nat) : Prop where
 n : L.count ≤ 1000
 pn : L.pools.length ≤ 1000
 rk : wOK K Sm L.ranks
 rin : ∀ t ∈ L.ranks, wIn L.count t
 z : K + (M + L.ranks.length * (Sm + 1)) + Sm ≤ Z
 g : 1 + wN L.ranks * (Z + 1) ≤ G
 gz : Z ≤ G
 gb : G ≤ 40000000
 pl : ∀ p ∈ L.pools, wOK K2 S2 p.2 ∧ (∀ t ∈ p.2, wIn L.count t) ∧ p.1.length ≤ 1000 ∧ ∀ i ∈ p.1, 0 ≤ i ∧ i < (L.count : Int)
 pz : ∀ p ∈ L.pools, K2 + (1 + p.1.length * (G + 1) + p.2.length * (S2 + 1)) + S2 ≤ Z2
 zb : Z2 ≤ 40000000000
 b : G + (L.pools.map fun p => wN p.2).sum * (Z2 + 1) ≤ 50000000000
def pSum (ps : List WPool) : Nat := (ps.map fun p => wN p.2).sum
theorem pSum_cons (p : WPool) (ps : List WPool) : pSum (p :: ps) = wN p.2 + pSum ps := rfl
theorem wGross_B {L : WL} {K Sm M Z G K2 S2 Z2 : Nat} (h : delB L K Sm M Z G K2 S2 Z2) {m : Rat} (hm : qB M m) : ∀ x ∈ wGross L m, qB G x := fun x hx => by
 have h1 := wPay_B h.rk hm (zeros_B L.count)
 refine (h1.1 x hx).mono ?_
 have h2 := h.g
 have h3 := h.z
 have h4 : wN L.ranks * (K + (M + L.ranks.length * (Sm + 1)) + Sm + 1) ≤ wN L.ranks * (Z + 1) := Nat.mul_le_mul_left _ (by omega)
 omega
theorem wZero_B {n : Nat} (hn : 0 < n) : ∀ (M : List Int) (l : List Rat), (∀ x ∈ l, qB n x) → ∀ x ∈ wZero M l, qB n x
 | [], _, h => h
 | i :: M, l, h => wZero_B hn M _ fun x hx => by
  rcases List.mem_or_eq_of_mem_set hx with h1 | rfl
  ·exact h x h1
  exact qB_zero.mono hn
theorem wTake_B {n : Nat} (hn : 0 < n) : ∀ (ps : List WPool) (l : List Rat), (∀ x ∈ l, qB n x) → ∀ x ∈ wTake ps l, qB n x
 | [], _, h => h
 | p :: ps, l, h => wTake_B hn ps _ (wZero_B hn p.1 l h)
theorem wTot_B {G : Nat} {g : List Rat} (hg : ∀ x ∈ g, qB G x) (h0 : 0 < G) : ∀ M : List Int, qB (1 + M.length * (G + 1)) (wTot g M)
 | [] => by simpa [wTot] using qB_zero
 | i :: M => by
  have h1 := wTot_B hg h0 M
  refine ((getD_qB hg h0 i.toNat).add h1).mono ?_
  simp only [List.length_cons, Nat.add_mul, Nat.one_mul]
  omega
noncomputable def delR (n : Nat) (R : WR) : AV := .tup [.one (.sh 3 n (flat cQ R.cl)), .agg (cRat (enc R.rv))]
def F25 := And.intro zS (And.intro tf82 (And.intro tf70 (And.intro tf72 (And.intro tf65 (And.intro tf52 (And.intro tf53 (And.intro tf54 (And.intro tf74 (And.intro tf18 (And.intro tf76 (And.intro tf66 (And.intro tf67 (And.intro tf39 (tf69))))))))))))))
set_option maxRecDepth 100000 in
set_option maxHeartbeats 4000000 in
theorem lDel_A (L : WL) (m : Rat) (K Sm M Z G K2 S2 Z2 : Nat) (hB : delB L K Sm M Z G K2 S2 Z2) (hM : qB M m) : ACall Tryz.prog 80 [.agg (cLay L), .agg (cRat (enc m))] (delR L.count (wDel L m)) := by
 have hGg := hB.g
 have hGz := hB.gz
 have hGb := hB.gb
 have hBb : G + pSum L.pools * (Z2 + 1) ≤ 50000000000 := hB.b
 have hG0 : 0 < G := by omega
 have hLn := hB.n
 have hLp := hB.pn
 refine acall_of Tryz.func80 rfl (by decide) (N := 39) rfl (by simp) (R := [.tmp 4, .cell 5 32]) rfl fun en k0 => ?_
 refine awN ?_
 simp only [(id F25), seval, cRat, cLay]
 repeat refine ob ?_
 have hG := lGross_A L m K Sm M Z (by have := hB.n; omega) hB.rk hB.rin hM hB.z (by omega) (by have := hB.zb; omega)
 simp only [cRat] at hG
 refine awN ?_
 simp only [(id F25), seval, cRat, cLay, flat_pure cWT_pure, flat_pure cPool_pure]
 repeat refine ob ?_
 refine ⟨_, hG, (by first | rfl | simp [allA, pure1, pureCs, pureC, A1.cells, flat_pure cQ_pure]), ?_⟩
 try unfold Later
 try simp only [(id F25), seval, cRat, cLay, flat_pure cWT_pure, flat_pure cPool_pure]
 repeat refine ob ?_
 have hgl := wGross_len L m
 have hgB := wGross_B hB hM
 obtain ⟨g, hg⟩ : ∃ g, wGross L m = g := ⟨_, rfl⟩
 rw [hg] at hgl hgB
 rw [hg]
 refine awR [15] [none, none, none, none] ?_
 simp only [(id F25), seval, cRat, cLay, flat_pure cWT_pure, flat_pure cPool_pure, flat_pure cQ_pure]
 repeat refine ob ?_
 refine ⟨_, take_I L g _ _ hgl (by have := hB.n; omega) hB.pn (fun p hp => ⟨(hB.pl p hp).2.2.1, (hB.pl p hp).2.2.2⟩) (fun y B h => ?_), ?_⟩
 ·
  by_cases hy : y < 37
  ·
   exact hy
  exfalso
  simp only [up_apply] at h
  repeat rw [if_neg (by omega)] at h
  cases h
 rintro res H' nx' ⟨s, sc, rfl, rfl⟩
 simp only [(id F25), seval]
 repeat refine ob ?_
 obtain ⟨nx9, hnx9⟩ : ∃ n, nx' = n := ⟨_, rfl⟩
 simp only [hnx9]
 refine awN ?_
 simp only [(id F25), seval, cRat, cLay]
 repeat refine ob ?_
 have hR0 : (⟨wTake L.pools g, 0⟩ : WR).B (G + 0 * (Z2 + 1)) := ⟨fun x hx => (wTake_B (by omega) L.pools g hgB x hx).mono (by omega), qB_zero.mono (by omega)⟩
 have hR1 : (⟨wTake L.pools g, 0⟩ : WR).cl.length = L.count := by show (wTake L.pools g).length = _; rw [wTake_len]; exact hgl
 refine awp_keep [5, 6, 7, 17, 18, 19] [50, 48, 5] ?_
 try unfold Later
 try simp only [(id F25), seval, cRat]
 repeat' first|apply awS|apply awB
 refine awp_loopw (fun n st => ∃ i0 R w nx, i0 ≤ L.pools.length ∧ n = L.pools.length - i0 ∧ wPools g (L.pools.drop i0) R = wPools g L.pools ⟨wTake L.pools g, 0⟩ ∧ R.cl.length = L.count ∧ R.B (G + w * (Z2 + 1)) ∧ w + pSum (L.pools.drop i0) = pSum L.pools ∧ st = ⟨mkT [(5, .val (.one (.ptr 5 2 0))), (6, .val (.one (.sh 3 L.count (flat cQ g)))), (7, .val (.one (.ptr 50 s 0))), (17, .val (.one (.sh 2 L.pools.length (flat cPool L.pools)))), (18, one (.int .i64 L.pools.length)), (19, one (.int .i64 i0))], mkH [(50, ⟨s, 200, 4, 1, .own 48 sc L.count 3 :: cRat (enc R.rv)⟩), (48, ⟨sc, 32, 3, L.count, flat cQ R.cl⟩), (5, ⟨2, 32, 3, 1, [.lit (.bool false), .lit (.string bEmpty), .lit (.string bEmpty)]⟩)], nx, 0⟩) (L.pools.length) ⟨0, ⟨wTake L.pools g, 0⟩, 0, _, by omega, by omega, by rfl, (by first | omega | assumption | rfl | simp | (simp; omega)), (by first | omega | assumption | rfl | simp | (simp; omega)), (by first | omega | assumption | rfl | simp | (simp; omega)), rfl⟩ ?_
 rintro n0 st ⟨i0, R, w, nx0, hk0, rfl, hL0, hV0_1, hV0_2, hV0_3, rfl⟩
 by_cases hlt0 : i0 < L.pools.length
 ·
  have hI0 : (i0 : Int) < (L.pools.length : Int) := by omega
  have hat0 := flat_at cPool_len L.pools i0 hlt0
  try rw [Nat.mul_one] at hat0
  rw [List.drop_eq_getElem_cons hlt0] at hL0
  have hpp := hB.pl _ (List.getElem_mem hlt0)
  have hpz := hB.pz _ (List.getElem_mem hlt0)
  have hw0 := hV0_3
  rw [List.drop_eq_getElem_cons hlt0, pSum_cons] at hw0
  have hmw : (w + wN (L.pools[i0]).2) * (Z2 + 1) = w * (Z2 + 1) + wN (L.pools[i0]).2 * (Z2 + 1) := Nat.add_mul _ _ _
  have hm1 : (w + wN (L.pools[i0]).2) * (Z2 + 1) ≤ pSum L.pools * (Z2 + 1) := Nat.mul_le_mul_right _ (by omega)
  have hnl := wPay_len (L.pools[i0]).2 (wTot g (L.pools[i0]).1) R
  have hnx := (wPay_B hpp.1 (wTot_B hgB (by omega) (L.pools[i0]).1) hV0_2).mono (n := G + (w + wN (L.pools[i0]).2) * (Z2 + 1)) (by have h7 : wN (L.pools[i0]).2 * (K2 + (1 + (L.pools[i0]).1.length * (G + 1) + (L.pools[i0]).2.length * (S2 + 1)) + S2 + 1) ≤ wN (L.pools[i0]).2 * (Z2 + 1) := Nat.mul_le_mul_left _ (by omega); omega)
  generalize L.pools[i0] = p at *
  simp only [wPools] at hL0
  refine awN ?_
  simp only [(id F25), seval, cRat, hI0, hat0]
  repeat refine ob ?_
  refine awT ?_
  refine awK ?_
  simp only [(id F25), seval]
  refine awN ?_
  simp only [(id F25), seval, cRat, hI0, hat0, cPool]
  repeat refine ob ?_
  have hT := total_A p g L.count hgl G (fun i hi => by have := hpp.2.2.2 i hi; omega) hgB (by omega) (by have := hpp.2.2.1; omega) (by omega) (by have h8 := Nat.mul_le_mul hpp.2.2.1 (show G + 1 ≤ 40000001 by omega); omega)
  simp only [cPool, cRat] at hT
  have hTB := wTot_B hgB (by omega) p.1
  have hRn := hV0_1
  have hRB := hV0_2
  repeat' first|apply awS|apply awB
  refine awp_drawsI [29] (by kernel_rfl) (.cons 0 true (.cons 1 true (.cons 2 true (.cons 3 true (.cons 5 true (.cons 4 false (.cons 6 false .nil))))))) (by kernel_rfl) (gs := [none, none, none, none, none, none, none]) (by kernel_rfl) (by simp only [(id zS), seval]; rfl) (by decide) ?_
  simp only [(id F25), seval, cRat, hI0, hat0, cPool, flat_pure cQ_pure, flat_pure cWT_pure, flat_pure cI_pure, (id SD)]
  repeat refine ob ?_
  refine ⟨_, hT, (by first | rfl | simp [allA, pure1, pureCs, pureC, A1.cells, flat_pure cQ_pure]), ?_⟩
  try unfold Later
  try simp only [(id F25), seval, cRat, hI0, hat0, cPool, flat_pure cQ_pure, flat_pure cWT_pure, flat_pure cI_pure]
  repeat refine ob ?_
  refine ⟨_, pay_I _ _ s sc L.count R p.2 (wTot g p.1) K2 S2 (1 + p.1.length * (G + 1)) (G + w * (Z2 + 1)) Z2 (by rfl) (by rfl) hRn (fun y B h => ?_) (by have := hB.n; omega) hpp.1 hpp.2.1 hTB hRB hpz (by omega) hB.zb, ?_⟩
  ·
   by_cases hy : y < 7000
   ·
    exact hy
   exfalso
   simp only [up_apply] at h
   repeat rw [if_neg (by omega)] at h
   cases h
  rintro res H' nx' ⟨rfl, hW⟩
  simp only [(id F25), seval, (id SD)]
  repeat refine ob ?_
  refine awp_weak hW ?_
  simp only [(id F25), seval]
  refine awN ?_
  simp only [(id F25), seval, cRat, hI0, hat0]
  repeat refine ob ?_
  repeat refine ob ?_
  refine ⟨_, wk_keep [5, 6, 7, 17, 18, 19] [50, 48, 5], L.pools.length - (i0 + 1), by omega, i0 + 1, (wPay p.2 (wTot g p.1) R), (w + wN p.2), ?a8_nx, by omega, rfl, ?i8_0, ?i8_1, ?i8_2, ?i8_3, ?st8⟩
  case st8 => (simp only [(id F25), seval, cRat, hI0, hat0]; first | rfl | (simp [hI0, hat0, Nat.add_mul]; done))
  case i8_0 => (first | exact hL0 | (rw [← hL0]; simp only [reduceIte, hI0, hat0]; done) | (rw [← hL0]; simp [hI0, hat0]; done) | (simp [hI0, hat0] at hL0; simpa using hL0) | (rw [← hL0]; simp [*]; done))
  case i8_1 => (first | omega | assumption | (simp; omega) | (simp_all; done))
  case i8_2 => (first | omega | assumption | (simp; omega) | (simp_all; done))
  case i8_3 => (first | omega | assumption | (simp; omega) | (simp_all; done))
 obtain rfl : i0 = L.pools.length := by omega
 have hI0 : ¬ (L.pools.length : Int) < (L.pools.length : Int) := by omega
 rw [List.drop_length] at hL0
 simp only [wPools] at hL0
 refine awN ?_
 simp only [(id F25), seval, cRat, hI0]
 repeat refine ob ?_
 refine awF ?_
 refine awQ ?_
 simp only [(id F25), seval]
 refine awp_pubc 48 50 0 (by rfl) (by rfl) (by rfl) (by decide) (by show (3 : Nat) ≠ 0; decide) (by show (4 : Nat) ≠ 0; decide) rfl ?_
 simp only [(id F25), seval]
 refine awD (scT 0 9 (scq [18] .nil)) [none, none, none, none, none, none, none, none, none, none] ?_
 simp only [(id F25), seval, cRat, hI0, flat_pure cQ_pure]
 repeat refine ob ?_
 refine awX ?_
 simp only [(id F25), seval, flat_pure cQ_pure]
 have hd : wDel L m = R := by unfold wDel; rw [hg, hL0]
 simp [delR, hd, cRat]
end Go.Proofs.YtokmkopihhnggaaGreatDoor
