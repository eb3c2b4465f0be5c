/- dispute.chooses, Apply, Decide; walked by the abstract machine. -/
import Derived.Test.YtokmkopihhnggaaGreatDoorCg1M
set_option linter.unusedVariables false
set_option linter.unusedSimpArgs false
set_option linter.defProp false
namespace Go.Proofs.YtokmkopihhnggaaGreatDoor
open Go Go.RowKit
theorem dkL_ex {g : GGrp} : ∀ {l : List GDisp} {T : List Leg}, dkL g T l = 0 → ∀ d ∈ l, exB g d.est d.cl = true
 | [], _, _, d, h => by cases h
 | x :: l, T, h, d, hd => by
  simp only [dkL] at h
  split at h
  ·rename_i h0
   rcases List.mem_cons.1 hd with rfl | hd
   ·unfold dChk at h0
    split at h0
    ·assumption
    cases h0
   exact dkL_ex h d hd
  rename_i h0; exact absurd h h0
theorem dcS_ex {gc : Int} {g : GGrp} {l : List GDisp} (h : dcS gc g l = 0) : l.length ≤ 8 ∧ ∀ d ∈ l, exB g d.est d.cl = true := by
 unfold dcS at h
 split at h
 ·split at h
  ·cases h
  split at h
  ·exact ⟨by omega, dkL_ex ‹_›⟩
  rename_i h0; exact absurd h h0
 rename_i h0; exact absurd h h0
theorem ft_at {c : List Int} : ∀ {l : List GDisp} {i : Nat}, ftL c l i = true → ∀ k (h : k < l.length), 0 ≤ c.getD (i + k) 0 ∧ c.getD (i + k) 0 < (l[k].opts.length : Int)
 | [], _, _, _, h => absurd h (by simp)
 | d :: l, i, h, k, hk => by
  simp only [ftL] at h
  split at h
  ·cases h
  split at h
  ·cases h
  cases k with
  | zero => exact ⟨by simpa using ‹¬ c.getD i 0 < 0›, by simpa using ‹¬ (d.opts.length : Int) ≤ c.getD i 0›⟩
  | succ k =>
   have := ft_at h k (by simpa using hk)
   rw [show i + 1 + k = i + (k + 1) by omega] at this
   simpa using this
theorem clE_shp (es : List GEst) : shp (es.map clE) = shp es := by
 unfold shp
 rw [List.map_map]
 refine List.map_congr_left fun e _ => ?_
 show (e.claims.map clC).map (·.holder) = _
 rw [List.map_map]
 rfl
def zB (t : Nat) : Blk := ⟨t, 28, 2, 1, [.lit (.slice none 0 0), .lit (.slice none 0 0)]⟩
theorem den_zero {κ : Kx} {vs : List Value} (h : denVs κ vs [.lit (.slice none 0 0), .lit (.slice none 0 0)]) : denVs κ vs [.sh 5 0 [], .sh 4 0 []] := by
 obtain ⟨v1, vs1, rfl, d1, h⟩ := denVs_cons h
 obtain ⟨v2, vs2, rfl, d2, h⟩ := denVs_cons h
 exact ⟨den_nilsh 5 d1, den_nilsh 4 d2, h⟩
def cqD (l : List GDisp) : Prop := dispsOK l ∧ ∀ d ∈ l, ∀ x ∈ d.opts, cqR x.amount
theorem tbl_step {ps : List (GEst × Nat)} {q : GEst × Nat} {j k : Nat} {op : GOpt} {E : TypeId} {H H' : Hp} (hq : ps[j]? = some q) (hH : ∀ y B, up H (1000 * (j + 1) + 103) (some ⟨q.2, E, 5, q.1.claims.length, flat cClaim (q.1.claims.set k (opC (q.1.claims.getD k default) op))⟩) y = some B → H' y = some B)
  (hT : ∀ y B, tbl 103 E ps y = some B → H y = some B) (l : List Nat) : ∀ y B, tbl 103 E (ps.set j (stC q.1 k op, q.2)) y = some B → hasN l y = true ∨ H' y = some B := fun y B h => by
 right
 obtain ⟨i, r, rfl, h2, rfl⟩ := tbl_some h
 have hj : j < ps.length := (List.getElem?_eq_some_iff.1 hq).1
 refine hH _ _ ?_
 by_cases hij : i = j
 ·subst hij
  rw [List.getElem?_set_self hj] at h2
  obtain rfl := Option.some.inj h2
  rw [up_same]
  simp [stC]
 rw [List.getElem?_set_ne (fun e => hij e.symm)] at h2
 rw [up_ne _ _ (by omega)]
 exact hT _ _ (tbl_at (by decide) h2)
theorem eRw_step {ps : List (GEst × Nat)} {q : GEst × Nat} {j k : Nat} {op : GOpt} (hq : ps[j]? = some q) : eRw (fOwn 103) (ps.set j (stC q.1 k op, q.2)) 0 = eRw (fOwn 103) ps 0 := eRw_same (fOwn 103) ps j q _ hq rfl rfl (by simp [fOwn, stC])
theorem stE_ps {ps : List (GEst × Nat)} {q : GEst × Nat} {j k : Nat} {op : GOpt} (hq : ps[j]? = some q) : (ps.set j (stC q.1 k op, q.2)).map (·.1) = stE (ps.map (·.1)) j k op := by
 rw [List.map_set, stE_def]
 congr 1
 have : (ps.map (·.1)).getD j ztEst = q.1 := by rw [List.getD_eq_getElem?_getD, List.getElem?_map, hq]; rfl
 rw [this]
def F77 := And.intro zS (And.intro tf141 (And.intro tf22 (And.intro tf142 (And.intro tf134 (And.intro tf7 (And.intro tf135 (And.intro tf138 (tf12))))))))
set_option maxRecDepth 100000 in
set_option maxHeartbeats 4000000 in
theorem chooses_A (l : List GDisp) (c : List Int) (hcl : c.length = l.length) (hl : l.length ≤ 1000000) : ACall Tryz.prog 61 [.one (.sh 3 l.length (flat cDisp l)), .one (.sh 1 c.length (flat cI c))] (one (.bool (ftL c l 0))) := by
 rw [hcl]
 refine acall_of Tryz.func61 rfl (by decide) (N := 27) rfl (by simp) (R := [.tmp 4]) rfl fun en k0 => ?_
 refine awN ?_
 simp only [(id F77), seval]
 repeat refine ob ?_
 refine awN ?_
 simp only [(id F77), seval]
 repeat refine ob ?_
 refine awp_keep [0, 1, 4, 7, 8, 9] [] ?_
 try unfold Later
 try simp only [(id F77), seval]
 repeat' first|apply awS|apply awB
 refine awp_loopw (fun n st => ∃ i0 nx, i0 ≤ l.length ∧ n = l.length - i0 ∧ ftL c (l.drop i0) i0 = ftL c l 0 ∧ st = ⟨mkT [(0, .val (.one (.sh 3 l.length (flat cDisp l)))), (1, .val (.one (.sh 1 l.length (flat cI c)))), (4, .val (.one (.lit (.bool false)))), (7, .val (.one (.sh 1 l.length (flat cI c)))), (8, one (.int .i64 l.length)), (9, one (.int .i64 i0))], mkH [], nx, 0⟩) (l.length) ⟨0, _, by omega, by omega, by rfl, rfl⟩ ?_
 rintro n0 st ⟨i0, nx0, hk0, rfl, hL0, rfl⟩
 by_cases hlt0 : i0 < l.length
 ·
  have hI0 : (i0 : Int) < (l.length : Int) := by omega
  have hat0 := flat_at cDisp_len l i0 hlt0
  try rw [Nat.mul_one] at hat0
  rw [List.drop_eq_getElem_cons hlt0] at hL0
  have hc0 : i0 < c.length := by omega
  have hatc := flat_at cI_len c i0 hc0
  rw [Nat.mul_one] at hatc
  obtain ⟨x, hcx⟩ : ∃ x, c[i0] = x := ⟨_, rfl⟩
  rw [hcx] at hatc
  have hcd : c[i0]?.getD 0 = x := by rw [List.getElem?_eq_getElem hc0, hcx]; rfl
  generalize l[i0] = d at *
  simp only [ftL] at hL0
  refine awN ?_
  simp only [(id F77), seval, hI0, hat0, hcd]
  repeat refine ob ?_
  refine awT ?_
  refine awK ?_
  simp only [(id F77), seval]
  refine awN ?_
  simp only [(id F77), seval, hI0, hat0, hcd, hatc, cI]
  repeat refine ob ?_
  by_cases h1 : x < 0
  ·
   refine awR [] [none, none, none, some (16, false), some (16, false), some (16, false), some (16, false), some (16, false), some (16, false), some (16, false), some (16, false), none] ?_
   simp only [(id F77), seval, hI0, hat0, hcd, h1, cDisp, hat0]
   repeat refine ob ?_
   refine awT ?_
   refine awN ?_
   simp only [(id F77), seval, hI0, hat0, hcd, h1]
   repeat refine ob ?_
   refine awX ?_
   simp only [(id F77), seval]
   simp [← hL0, hcd, h1]
  by_cases h2 : (d.opts.length : Int) ≤ x
  ·
   refine awR [] [none, none, none, some (16, false), some (16, false), some (16, false), some (16, false), some (16, false), some (16, false), some (16, false), some (16, false), none] ?_
   simp only [(id F77), seval, hI0, hat0, hcd, h1, h2, cDisp, hat0]
   repeat refine ob ?_
   refine awT ?_
   refine awN ?_
   simp only [(id F77), seval, hI0, hat0, hcd, h1, h2]
   repeat refine ob ?_
   refine awX ?_
   simp only [(id F77), seval]
   simp [← hL0, hcd, h1, h2]
  refine awR [] [none, none, none, some (16, false), some (16, false), some (16, false), some (16, false), some (16, false), some (16, false), some (16, false), some (16, false), none] ?_
  simp only [(id F77), seval, hI0, hat0, hcd, h1, h2, cDisp, hat0]
  repeat refine ob ?_
  refine awF ?_
  refine awK ?_
  simp only [(id F77), seval]
  refine awN ?_
  simp only [(id F77), seval, hI0, hat0, hcd, h1, h2]
  repeat refine ob ?_
  repeat refine ob ?_
  refine ⟨_, wk_keep [0, 1, 4, 7, 8, 9] [], l.length - (i0 + 1), by omega, i0 + 1, ?a12_nx, by omega, rfl, ?i12_0, ?st12⟩
  case st12 => (simp only [(id F77), seval, hI0, hat0, hcd, h1, h2]; first | rfl | (simp [hI0, hat0, hcd, h1, h2, Nat.add_mul]; done))
  case i12_0 => (simpa [hcd, h1, h2] using hL0)
 obtain rfl : i0 = l.length := by omega
 have hI0 : ¬ (l.length : Int) < (l.length : Int) := by omega
 rw [List.drop_length] at hL0
 simp only [ftL] at hL0
 refine awN ?_
 simp only [(id F77), seval, hI0]
 repeat refine ob ?_
 refine awF ?_
 refine awQ ?_
 simp only [(id F77), seval]
 refine awN ?_
 simp only [(id F77), seval, hI0]
 repeat refine ob ?_
 refine awX ?_
 (first | (simp only [(id F77), seval, hI0, ← hL0]; done) | (simp only [(id F77), seval]; first | (simp [hI0, ← hL0]; done) | (simp [hI0]; done) | (rw [← hL0]; simp [hI0]; done)))
def F78 := And.intro zS (And.intro tf141 (And.intro tf133 (And.intro tf22 (And.intro tf142 (And.intro tf134 (And.intro tf7 (And.intro tf145 (And.intro tf135 (And.intro tf138 (And.intro tf143 (And.intro tf113 (And.intro tf101 (And.intro tf139 (And.intro tf12 (And.intro tf126 (And.intro tf144 (tf129)))))))))))))))))
set_option maxRecDepth 100000 in
set_option maxHeartbeats 4000000 in
theorem dApply_A (g : GGrp) (l : List GDisp) (c : List Int) (hg : cqG g) (hgo : grpOK g) (hl : cqD l) : ACall Tryz.prog 21 [.agg (cGrp g), .one (.sh 3 l.length (flat cDisp l)), .one (.sh 1 c.length (flat cI c))] (.tup [.agg (cGrp (apS (dcS (gcSpec g) g l) g l c).1), .one (.lit (.int .i64 (apS (dcS (gcSpec g) g l) g l c).2))]) := by
 refine acall_of Tryz.func21 rfl (by decide) (N := 53) rfl (by simp) (R := [.cell 6 28, .tmp 7]) rfl fun en k0 => ?_
 refine awN ?_
 simp only [(id F78), seval, cGrp]
 repeat refine ob ?_
 have hK := dCheck_A g l hgo hl.1
 refine awN ?_
 simp only [(id F78), seval, cGrp, flat_pure cEst_pure, flat_pure cDebt_pure, flat_pure cDisp_pure]
 repeat refine ob ?_
 refine ⟨_, hK, (by first | rfl | simp [allA, pure1, pureCs, pureC, A1.cells, cGrp, flat_pure cEst_pure, flat_pure cDebt_pure]), ?_⟩
 try unfold Later
 try simp only [(id F78), seval, cGrp, flat_pure cEst_pure, flat_pure cDebt_pure, flat_pure cDisp_pure]
 repeat refine ob ?_
 by_cases h0 : dcS (gcSpec g) g l = 0
 ·
  refine awN ?_
  simp only [(id F78), seval, cGrp, h0]
  repeat refine ob ?_
  refine awF ?_
  refine awK ?_
  simp only [(id F78), seval]
  by_cases hcl : c.length = l.length
  ·
   have hcp : (c.length : Int) = (l.length : Int) := by omega
   refine awN ?_
   simp only [(id F78), seval, cGrp, h0, hcp]
   repeat refine ob ?_
   refine awF ?_
   refine awK ?_
   simp only [(id F78), seval]
   by_cases hft : ftL c l 0 = true
   ·
    refine awN ?_
    simp only [(id F78), seval, cGrp, h0, hcp, hft, flat_pure cDisp_pure, flat_pure cI_pure]
    repeat refine ob ?_
    refine ⟨_, (chooses_A l c hcl (by have := hl.1.1; omega)), (by first | rfl | simp [allA, pure1, pureCs, pureC, A1.cells, cGrp, flat_pure cEst_pure, flat_pure cDebt_pure]), ?_⟩
    try unfold Later
    try simp only [(id F78), seval, cGrp, h0, hcp, hft, flat_pure cDisp_pure, flat_pure cI_pure]
    repeat refine ob ?_
    refine awF ?_
    refine awK ?_
    simp only [(id F78), seval]
    refine awR [31] [none, none, none, none] ?_
    simp only [(id F78), seval, cGrp, h0, hcp, hft]
    repeat refine ob ?_
    refine ⟨_, copyGroup_I g hg _ _ (fun y B hB => ?_), ?_⟩
    ·
     simp only [up_apply] at hB
     repeat (split at hB; · omega)
     cases hB
    rintro res H' nxA ⟨ps0, s0, t0, hps0, rfl, rfl⟩
    simp only [(id F78), seval, (id SD)]
    repeat refine ob ?_
    have hdx := dcS_ex h0
    have hl8 := hdx.1
    have hn1 := hg.1
    refine awN ?_
    simp only [(id F78), seval, cGrp, h0, hcp, hft]
    repeat refine ob ?_
    refine awp_on (tbl 103 38 ps0) [1, 2, 6, 7, 9, 32, 33, 34] [6, 9, 220] (by intro y B h; obtain ⟨a, r, rfl, h2, h3⟩ := tbl_some h; right; simp only [up_apply]; (repeat rw [if_neg (by omega)]); unfold orT; rw [h]) ?_
    try unfold Later
    try simp only [(id F78), seval, cGrp, h0, hcp, hft]
    repeat' first|apply awS|apply awB
    refine awp_loopw (fun n st => ∃ k ps nx, k ≤ l.length ∧ n = l.length - k ∧ apF c (l.drop k) k (ps.map (·.1)) = apF c l 0 (g.ests.map clE) ∧ ps.length = g.ests.length ∧ shp (ps.map (·.1)) = shp g.ests ∧ st = ⟨mkT [(1, .val (.one (.sh 3 l.length (flat cDisp l)))), (2, .val (.one (.sh 1 c.length (flat cI c)))), (6, .val (.one (.ptr 6 1 0))), (7, one (.int .i64 0)), (9, .val (.one (.ptr 9 nxA 0))), (32, .val (.one (.sh 3 l.length (flat cDisp l)))), (33, one (.int .i64 l.length)), (34, one (.int .i64 k))], mkOn (tbl 103 38 ps) [(6, zB 1), (9, ⟨nxA, 28, 2, 1, [.own 220 s0 g.ests.length 5, .sh 4 (g.debts.map clD).length (flat cDebt (g.debts.map clD))]⟩), (220, ⟨s0, 36, 5, g.ests.length, eRw (fOwn 103) ps 0⟩)], nx, 0⟩) (l.length) ⟨0, ps0, _, by omega, by omega, by rw [hps0]; rfl, by have := congrArg List.length hps0; simpa using this, by rw [hps0]; exact clE_shp _, rfl⟩ ?_
    rintro n0 st ⟨k, ps, nx0, hk, rfl, hap, hpl, hsh, rfl⟩
    by_cases hlt0 : (k : Int) < (l.length : Int)
    ·
     refine awN ?_
     simp only [(id F78), seval, cGrp, h0, hcp, hft, hlt0]
     repeat refine ob ?_
     refine awT ?_
     refine awK ?_
     simp only [(id F78), seval]
     have hkl : k < l.length := by omega
     have hat := flat_at cDisp_len l k hkl
     obtain ⟨d, hXd⟩ : ∃ d, l[k] = d := ⟨_, rfl⟩
     have hdm : d ∈ l := hXd ▸ List.getElem_mem hkl
     obtain ⟨x1, x2, x3, x4⟩ := exB_lt (hdx.2 d hdm)
     have hfk := ft_at hft k hkl
     rw [Nat.zero_add, hXd] at hfk
     rw [hXd] at hat
     refine awN ?_
     simp only [(id F78), seval, cGrp, h0, hcp, hft, hlt0, hat, cDisp]
     repeat refine ob ?_
     have hkc : k < c.length := by omega
     have hatc := flat_at cI_len c k hkc
     rw [Nat.mul_one] at hatc
     have hxg : c.getD k 0 = c[k] := by simp [List.getD_eq_getElem?_getD, hkc]
     obtain ⟨x, hcx⟩ : ∃ x, c[k] = x := ⟨_, rfl⟩
     rw [hcx] at hatc hxg
     rw [hxg] at hfk
     obtain ⟨y, hxy⟩ : ∃ y : Nat, x = y := ⟨x.toNat, by omega⟩
     subst hxy
     have hyl : y < d.opts.length := by omega
     have hato := flat_at cOpt_len d.opts y hyl
     obtain ⟨op, hopx⟩ : ∃ op, d.opts[y] = op := ⟨_, rfl⟩
     rw [hopx] at hato
     have hop : cqR op.amount := hl.2 d hdm op (hopx ▸ List.getElem_mem hyl)
     have hxc : d.opts.getD (c.getD k 0).toNat default = op := by rw [hxg, Int.toNat_natCast, List.getD_eq_getElem?_getD, List.getElem?_eq_getElem hyl, hopx]; rfl
     obtain ⟨q, hq⟩ : ∃ q, ps[d.est.toNat]? = some q := ⟨_, List.getElem?_eq_getElem (by omega)⟩
     have hqe : (ps.map (·.1)).getD d.est.toNat ztEst = q.1 := by rw [List.getD_eq_getElem?_getD, List.getElem?_map, hq]; rfl
     have hqc : q.1.claims.length = (g.ests.getD d.est.toNat ztEst).claims.length := by rw [← hqe]; exact shp_cl hsh _
     have hcb := (hg.2.1 _ (show g.ests.getD d.est.toNat ztEst ∈ g.ests by rw [getD_at _ _ (show d.est.toNat < g.ests.length by omega)]; exact List.getElem_mem _)).2.1
     simp only [cOpt] at hato
     repeat' first|apply awS|apply awB
     refine awp_drawsI [50] (by kernel_rfl) (.cons 0 true (.cons 1 true (.cons 2 true (.cons 3 true (.cons 4 true (.cons 5 true (.cons 6 true (.cons 7 true (.cons 8 true (.cons 9 true (.cons 10 true (.cons 11 false .nil)))))))))))) (by kernel_rfl) (gs := [none, none, none, none, none, none, none, none, none, none, none, none]) (by kernel_rfl) (by simp only [(id zS), seval]; rfl) (by decide) ?_
     simp only [(id F78), seval, cGrp, h0, hcp, hft, hlt0, hatc, cI, hato, cLeg, cOpt, (id SD)]
     repeat refine ob ?_
     refine ⟨_, set_I ps (g.debts.map clD) d.est d.cl op q g.ests.length s0 _ _ hpl.symm hn1 hop x1 hq x3 (by omega) (by omega) (by rfl) (fun i r hr => ?_) (fun y B hB => ?_), ?_⟩
     ·
      simp only [up_apply]
      repeat rw [if_neg (by omega)]
      exact tbl_at (by decide) hr
     ·
      simp only [up_apply] at hB
      repeat (split at hB; · omega)
      obtain ⟨a, r, rfl, _, _⟩ := tbl_some hB
      right; omega
     rintro res H' nx' ⟨rfl, hH9⟩
     simp only [(id F78), seval, (id SD)]
     repeat refine ob ?_
     refine awN ?_
     simp only [(id F78), seval, cGrp, h0, hcp, hft, hlt0]
     repeat refine ob ?_
     have h6 : H' 6 = some _ := hH9 6 _ (by simp only [up_apply]; rw [if_neg (by omega)]; rfl)
     have h9 : H' 9 = some _ := hH9 9 _ (by simp only [up_apply]; rw [if_neg (by omega)]; rfl)
     have h220 : H' 220 = some _ := hH9 220 _ (by simp only [up_apply]; rw [if_neg (by omega)]; rfl)
     refine ⟨_, wk_on (tbl 103 38 (ps.set d.est.toNat (stC q.1 d.cl.toNat op, q.2))) [1, 2, 6, 7, 9, 32, 33, 34] [6, 9, 220] (tbl_step hq hH9 (fun y B hB => ?tt12) _), l.length - (k + 1), by omega, k + 1, (ps.set d.est.toNat (stC q.1 d.cl.toNat op, q.2)), ?nn12, by omega, rfl, ?ap12, by rw [List.length_set]; exact hpl, ?sh12, ?st12⟩
     case st12 => (simp only [(id F78), seval, h6, h9, h220, eRw_step hq, zB]; try rfl)
     case tt12 =>
      obtain ⟨a, r, rfl, _, _⟩ := tbl_some hB
      simp only [up_apply]
      repeat rw [if_neg (by omega)]
      exact hB
     case ap12 =>
      rw [stE_ps hq]
      rw [List.drop_eq_getElem_cons hkl, hXd] at hap
      simp only [apF, stL] at hap
      rw [hxc] at hap
      exact hap
     case sh12 => rw [stE_ps hq, stE_shp]; exact hsh
    refine awN ?_
    simp only [(id F78), seval, cGrp, h0, hcp, hft, hlt0]
    repeat refine ob ?_
    refine awF ?_
    refine awQ ?_
    simp only [(id F78), seval]
    obtain rfl : k = l.length := by omega
    rw [List.drop_length] at hap
    simp only [apF] at hap
    have hnl : (apF c l 0 (g.ests.map clE)).length = g.ests.length := by rw [← hap, List.length_map]; exact hpl
    refine awp_on (tbl 103 38 ps) [1, 2, 6, 7, 9] [220, 6, 9] (by intro y B h; obtain ⟨a, r, rfl, h2, h3⟩ := tbl_some h; right; simp only [up_apply]; (repeat rw [if_neg (by omega)]); exact h) ?_
    simp only [(id F78), seval]
    refine awp_wk (wk_pubsw 103 38 36 (by decide) 220 [(6, _), (9, _)] (by simp) (by decide) g.ests.length _ ps) ?_
    rw [eRw_flat, hap]
    simp only [(id F78), seval]
    refine awp_pubc 220 9 0 (by rfl) (by rfl) (by rfl) (by decide) (by show (5 : Nat) ≠ 0; decide) (by show (2 : Nat) ≠ 0; decide) rfl ?_
    simp only [(id F78), seval]
    refine awN ?_
    simp only [(id F78), seval, cGrp, h0, hcp, hft, hlt0]
    repeat refine ob ?_
    refine awX ?_
    simp only [(id F78), seval, flat_pure cEst_pure, flat_pure cDebt_pure]
    simp [apS, h0, hcl, hft, clG, cGrp, hnl]
   refine awN ?_
   simp only [(id F78), seval, cGrp, h0, hcp, hft, flat_pure cDisp_pure, flat_pure cI_pure]
   repeat refine ob ?_
   refine ⟨_, (chooses_A l c hcl (by have := hl.1.1; omega)), (by first | rfl | simp [allA, pure1, pureCs, pureC, A1.cells, cGrp, flat_pure cEst_pure, flat_pure cDebt_pure]), ?_⟩
   try unfold Later
   try simp only [(id F78), seval, cGrp, h0, hcp, hft, flat_pure cDisp_pure, flat_pure cI_pure]
   repeat refine ob ?_
   refine awT ?_
   refine awN ?_
   simp only [(id F78), seval, cGrp, h0, hcp, hft]
   repeat refine ob ?_
   refine awp_wk (wk_cells 6 [.sh 5 0 [], .sh 4 0 []] (by rfl) (by show (2 : Nat) ≠ 0; decide) (by rfl) (fun κ vs h => den_zero h)) ?_
   simp only [(id F78), seval]
   refine awX ?_
   simp only [(id F78), seval]
   simp [apS, h0, hcl, hft, cGrp, flat_nil]
  have hcn : ¬ (c.length : Int) = (l.length : Int) := by omega
  refine awN ?_
  simp only [(id F78), seval, cGrp, h0, hcn]
  repeat refine ob ?_
  refine awT ?_
  refine awN ?_
  simp only [(id F78), seval, cGrp, h0, hcn]
  repeat refine ob ?_
  refine awp_wk (wk_cells 6 [.sh 5 0 [], .sh 4 0 []] (by rfl) (by show (2 : Nat) ≠ 0; decide) (by rfl) (fun κ vs h => den_zero h)) ?_
  simp only [(id F78), seval]
  refine awX ?_
  simp only [(id F78), seval]
  simp [apS, h0, hcl, cGrp, flat_nil]
 refine awN ?_
 simp only [(id F78), seval, cGrp, h0]
 repeat refine ob ?_
 refine awT ?_
 refine awN ?_
 simp only [(id F78), seval, cGrp, h0]
 repeat refine ob ?_
 refine awp_wk (wk_cells 6 [.sh 5 0 [], .sh 4 0 []] (by rfl) (by show (2 : Nat) ≠ 0; decide) (by rfl) (fun κ vs h => den_zero h)) ?_
 simp only [(id F78), seval]
 refine awX ?_
 simp only [(id F78), seval]
 simp [apS, h0, cGrp, flat_nil]
end Go.Proofs.YtokmkopihhnggaaGreatDoor
