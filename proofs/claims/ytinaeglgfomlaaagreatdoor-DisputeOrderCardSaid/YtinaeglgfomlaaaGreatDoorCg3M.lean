/- dispute.chooses, Apply, Decide; walked by the abstract machine. -/
import Derived.Test.YtinaeglgfomlaaaGreatDoorCg1M
set_option linter.unusedVariables false
set_option linter.unusedSimpArgs false
set_option linter.defProp false
set_option linter.unnecessarySimpa false
/- dispute.chooses, Apply, Decide; walked by the abstract machine. -/
namespace Go.Proofs.YtinaeglgfomlaaaGreatDoor
open Go Go.RowKit
theorem dkL_ex {g : GGrp} : ∀ {l : List GDisp} {T : List Leg}, dkL g T l = 0 → ∀ d ∈ l, exB g d.est d.cl = true
  | [], _, _, d, h => by cases h
  | x :: l, T, h, d, hd => by
    simp only [dkL] at h
    split at h
    · rename_i h0
      rcases List.mem_cons.1 hd with rfl | hd
      · unfold dChk at h0
        split at h0
        · assumption
        cases h0
      exact dkL_ex h d hd
    rename_i h0; exact absurd h h0
theorem dcS_ex {gc : Int} {g : GGrp} {l : List GDisp} (h : dcS gc g l = 0) : l.length ≤ 8 ∧ ∀ d ∈ l, exB g d.est d.cl = true := by
  unfold dcS at h
  split at h
  · split at h
    · cases h
    split at h
    · exact ⟨by omega, dkL_ex ‹_›⟩
    rename_i h0; exact absurd h h0
  rename_i h0; exact absurd h h0
theorem ft_at {c : List Int} : ∀ {l : List GDisp} {i : Nat}, ftL c l i = true → ∀ k (h : k < l.length), 0 ≤ c.getD (i + k) 0 ∧ c.getD (i + k) 0 < (l[k].opts.length : Int)
  | [], _, _, _, h => absurd h (by simp)
  | d :: l, i, h, k, hk => by
    simp only [ftL] at h
    split at h
    · cases h
    split at h
    · cases h
    cases k with
    | zero => exact ⟨by simpa using ‹¬ c.getD i 0 < 0›, by simpa using ‹¬ (d.opts.length : Int) ≤ c.getD i 0›⟩
    | succ k =>
      have := ft_at h k (by simpa using hk)
      rw [show i + 1 + k = i + (k + 1) by omega] at this
      simpa using this
theorem clE_shp (es : List GEst) : shp (es.map clE) = shp es := by
  unfold shp
  rw [List.map_map]
  refine List.map_congr_left fun e _ => ?_
  show (e.claims.map clC).map (·.holder) = _
  rw [List.map_map]
  rfl
def rsL (i : Nat) : List GDisp → Nat → List GDisp → List GDisp
  | [], _, out => out
  | d :: l, k, out => rsL i l (k + 1) (if k = i then out else out ++ [d])
theorem rsL_gt (i : Nat) : ∀ (l : List GDisp) (k : Nat) (out : List GDisp), i < k → rsL i l k out = out ++ l
  | [], _, out, _ => by simp [rsL]
  | d :: l, k, out, h => by
    rw [rsL, if_neg (by omega), rsL_gt i l (k + 1) _ (by omega)]
    simp
theorem rsL_le (i : Nat) : ∀ (l : List GDisp) (k : Nat) (out : List GDisp), k ≤ i → rsL i l k out = out ++ l.eraseIdx (i - k)
  | [], _, out, _ => by simp [rsL]
  | d :: l, k, out, h => by
    rw [rsL]
    by_cases hk : k = i
    · rw [if_pos hk, rsL_gt i l (k + 1) _ (by omega), show i - k = 0 by omega]
      rfl
    rw [if_neg hk, rsL_le i l (k + 1) _ (by omega), show i - k = (i - (k + 1)) + 1 by omega]
    simp
theorem er_map (f : GDisp → GDisp) : ∀ (l : List GDisp) (i : Nat), (l.map f).eraseIdx i = (l.eraseIdx i).map f
  | [], _ => rfl
  | _ :: _, 0 => rfl
  | x :: l, i + 1 => by simp [er_map f l i]
theorem rsL_er (i : Nat) (l : List GDisp) : rsL i (l.map clDp) 0 [] = (l.eraseIdx i).map clDp := by
  rw [rsL_le i _ 0 [] (by omega), List.nil_append, Nat.sub_zero]
  exact er_map clDp l i
def zB (t : Nat) : Blk := ⟨t, 28, 2, 1, [.lit (.slice none 0 0), .lit (.slice none 0 0)]⟩
theorem den_zero {κ : Kx} {vs : List Value} (h : denVs κ vs [.lit (.slice none 0 0), .lit (.slice none 0 0)]) : denVs κ vs [.sh 5 0 [], .sh 4 0 []] := by
  obtain ⟨v1, vs1, rfl, d1, h⟩ := denVs_cons h
  obtain ⟨v2, vs2, rfl, d2, h⟩ := denVs_cons h
  exact ⟨den_nilsh 5 d1, den_nilsh 4 d2, h⟩
def cqD (l : List GDisp) : Prop := dispsOK l ∧ ∀ d ∈ l, ∀ x ∈ d.opts, cqR x.amount
theorem tbl_step {ps : List (GEst × Nat)} {q : GEst × Nat} {j k : Nat} {op : GOpt} {E : TypeId} {H H' : Hp} (hq : ps[j]? = some q) (hH : ∀ y B, up H (1000 * (j + 1) + 103) (some ⟨q.2, E, 5, q.1.claims.length, flat cClaim (q.1.claims.set k (opC (q.1.claims.getD k default) op))⟩) y = some B → H' y = some B)
    (hT : ∀ y B, tbl 103 E ps y = some B → H y = some B) (l : List Nat) : ∀ y B, tbl 103 E (ps.set j (stC q.1 k op, q.2)) y = some B → hasN l y = true ∨ H' y = some B := fun y B h => by
  right
  obtain ⟨i, r, rfl, h2, rfl⟩ := tbl_some h
  have hj : j < ps.length := (List.getElem?_eq_some_iff.1 hq).1
  refine hH _ _ ?_
  by_cases hij : i = j
  · subst hij
    rw [List.getElem?_set_self hj] at h2
    obtain rfl := Option.some.inj h2
    rw [up_same]
    simp [stC]
  rw [List.getElem?_set_ne (fun e => hij e.symm)] at h2
  rw [up_ne _ _ (by omega)]
  exact hT _ _ (tbl_at (by decide) h2)
theorem eRw_step {ps : List (GEst × Nat)} {q : GEst × Nat} {j k : Nat} {op : GOpt} (hq : ps[j]? = some q) : eRw (fOwn 103) (ps.set j (stC q.1 k op, q.2)) 0 = eRw (fOwn 103) ps 0 := eRw_same (fOwn 103) ps j q _ hq rfl rfl (by simp [fOwn, stC])
theorem stE_ps {ps : List (GEst × Nat)} {q : GEst × Nat} {j k : Nat} {op : GOpt} (hq : ps[j]? = some q) : (ps.set j (stC q.1 k op, q.2)).map (·.1) = stE (ps.map (·.1)) j k op := by
  rw [List.map_set, stE_def]
  congr 1
  have : (ps.map (·.1)).getD j ztEst = q.1 := by rw [List.getD_eq_getElem?_getD, List.getElem?_map, hq]; rfl
  rw [this]
def F_dCho := And.intro zS (And.intro tf69 (And.intro tf41 (And.intro tf70 (And.intro tf62 (And.intro tf7 (And.intro tf63 (And.intro tf66 (tf12))))))))
set_option maxRecDepth 100000 in
set_option maxHeartbeats 4000000 in
theorem chooses_A (l : List GDisp) (c : List Int) (hcl : c.length = l.length) (hl : l.length ≤ 1000000) : ACall Tryz.prog 56 [.one (.sh 3 l.length (flat cDisp l)), .one (.sh 1 c.length (flat cI c))] (one (.bool (ftL c l 0))) := by
 rw [hcl]
 refine acall_of Tryz.func56 rfl (by decide) (N := 27) rfl (by simp) (R := [.tmp 4]) rfl fun en k0 => ?_
 refine awR [] [none] ?_
 simp only [(id F_dCho), seval]
 repeat refine ob ?_
 refine awR [] [none, none, none] ?_
 simp only [(id F_dCho), seval]
 repeat refine ob ?_
 refine awp_keep [0, 1, 4, 7, 8, 9] [] ?_
 try unfold Later
 try simp only [(id F_dCho), seval]
 repeat' first|apply awS|apply awB
 refine awp_loopw (fun n st => ∃ i0 nx, i0 ≤ l.length ∧ n = l.length - i0 ∧ ftL c (l.drop i0) i0 = ftL c l 0 ∧ st = ⟨mkT [(0, .val (.one (.sh 3 l.length (flat cDisp l)))), (1, .val (.one (.sh 1 l.length (flat cI c)))), (4, .val (.one (.lit (.bool false)))), (7, .val (.one (.sh 1 l.length (flat cI c)))), (8, one (.int .i64 l.length)), (9, one (.int .i64 i0))], mkH [], nx, 0⟩) (l.length) ⟨0, _, by omega, by omega, by rfl, rfl⟩ ?_
 rintro n0 st ⟨i0, nx0, hk0, rfl, hL0, rfl⟩
 by_cases hlt0 : i0 < l.length
 ·
  have hI0 : (i0 : Int) < (l.length : Int) := by omega
  have hat0 := flat_at cDisp_len l i0 hlt0
  try rw [Nat.mul_one] at hat0
  rw [List.drop_eq_getElem_cons hlt0] at hL0
  have hc0 : i0 < c.length := by omega
  have hatc := flat_at cI_len c i0 hc0
  rw [Nat.mul_one] at hatc
  obtain ⟨x, hcx⟩ : ∃ x, c[i0] = x := ⟨_, rfl⟩
  rw [hcx] at hatc
  have hcd : c[i0]?.getD 0 = x := by rw [List.getElem?_eq_getElem hc0, hcx]; rfl
  generalize l[i0] = d at *
  simp only [ftL] at hL0
  refine awR [] [none] ?_
  simp only [(id F_dCho), seval, hI0, hat0, hcd]
  repeat refine ob ?_
  refine awT ?_
  refine awK ?_
  simp only [(id F_dCho), seval]
  refine awR [] [none, none, none, none, none] ?_
  simp only [(id F_dCho), seval, hI0, hat0, hcd, hatc, cI]
  repeat refine ob ?_
  by_cases h1 : x < 0
  ·
   refine awR [] [none, none, none, some (16, false), some (16, false), some (16, false), some (16, false), some (16, false), some (16, false), some (16, false), some (16, false), none] ?_
   simp only [(id F_dCho), seval, hI0, hat0, hcd, h1, cDisp, hat0]
   repeat refine ob ?_
   refine awT ?_
   refine awR [] [none] ?_
   simp only [(id F_dCho), seval, hI0, hat0, hcd, h1]
   repeat refine ob ?_
   refine awX ?_
   simp only [(id F_dCho), seval]
   simp [← hL0, hcd, h1]
  by_cases h2 : (d.opts.length : Int) ≤ x
  ·
   refine awR [] [none, none, none, some (16, false), some (16, false), some (16, false), some (16, false), some (16, false), some (16, false), some (16, false), some (16, false), none] ?_
   simp only [(id F_dCho), seval, hI0, hat0, hcd, h1, h2, cDisp, hat0]
   repeat refine ob ?_
   refine awT ?_
   refine awR [] [none] ?_
   simp only [(id F_dCho), seval, hI0, hat0, hcd, h1, h2]
   repeat refine ob ?_
   refine awX ?_
   simp only [(id F_dCho), seval]
   simp [← hL0, hcd, h1, h2]
  refine awR [] [none, none, none, some (16, false), some (16, false), some (16, false), some (16, false), some (16, false), some (16, false), some (16, false), some (16, false), none] ?_
  simp only [(id F_dCho), seval, hI0, hat0, hcd, h1, h2, cDisp, hat0]
  repeat refine ob ?_
  refine awF ?_
  refine awK ?_
  simp only [(id F_dCho), seval]
  refine awR [] [none, none] ?_
  simp only [(id F_dCho), seval, hI0, hat0, hcd, h1, h2]
  repeat refine ob ?_
  repeat refine ob ?_
  refine ⟨_, wk_keep [0, 1, 4, 7, 8, 9] [], l.length - (i0 + 1), by omega, i0 + 1, ?a12_nx, by omega, rfl, ?i12_0, ?st12⟩
  case st12 => (simp only [(id F_dCho), seval, hI0, hat0, hcd, h1, h2]; first | rfl | (simp [hI0, hat0, hcd, h1, h2, Nat.add_mul]; done))
  case i12_0 => (simpa [hcd, h1, h2] using hL0)
 obtain rfl : i0 = l.length := by omega
 have hI0 : ¬ (l.length : Int) < (l.length : Int) := by omega
 rw [List.drop_length] at hL0
 simp only [ftL] at hL0
 refine awR [] [none] ?_
 simp only [(id F_dCho), seval, hI0]
 repeat refine ob ?_
 refine awF ?_
 refine awQ ?_
 simp only [(id F_dCho), seval]
 refine awR [] [none] ?_
 simp only [(id F_dCho), seval, hI0]
 repeat refine ob ?_
 refine awX ?_
 (first | (simp only [(id F_dCho), seval, hI0, ← hL0]; done) | (simp only [(id F_dCho), seval]; first | (simp [hI0, ← hL0]; done) | (simp [hI0]; done) | (rw [← hL0]; simp [hI0]; done)))
def F_dAp := And.intro zS (And.intro tf69 (And.intro tf61 (And.intro tf41 (And.intro tf70 (And.intro tf62 (And.intro tf7 (And.intro tf73 (And.intro tf63 (And.intro tf66 (And.intro tf71 (And.intro tf30 (And.intro tf31 (And.intro tf67 (And.intro tf12 (And.intro tf96 (And.intro tf72 (tf100)))))))))))))))))
set_option maxRecDepth 100000 in
set_option maxHeartbeats 4000000 in
theorem dApply_A (g : GGrp) (l : List GDisp) (c : List Int) (hg : cqG g) (hgo : grpOK g) (hl : cqD l) : ACall Tryz.prog 22 [.agg (cGrp g), .one (.sh 3 l.length (flat cDisp l)), .one (.sh 1 c.length (flat cI c))] (.tup [.agg (cGrp (apS (dcS (gcSpec g) g l) g l c).1), .one (.lit (.int .i64 (apS (dcS (gcSpec g) g l) g l c).2))]) := by
 refine acall_of Tryz.func22 rfl (by decide) (N := 53) rfl (by simp) (R := [.cell 6 28, .tmp 7]) rfl fun en k0 => ?_
 refine awR [] [none, none, none] ?_
 simp only [(id F_dAp), seval, cGrp]
 repeat refine ob ?_
 have hK := dCheck_A g l hgo hl.1
 refine awR [] [none, none, none, none] ?_
 simp only [(id F_dAp), seval, cGrp, flat_pure cEst_pure, flat_pure cDebt_pure, flat_pure cDisp_pure]
 repeat refine ob ?_
 refine ⟨_, hK, (by first | rfl | simp [allA, pure1, pureCs, pureC, A1.cells, cGrp, flat_pure cEst_pure, flat_pure cDebt_pure]), ?_⟩
 try unfold Later
 try simp only [(id F_dAp), seval, cGrp, flat_pure cEst_pure, flat_pure cDebt_pure, flat_pure cDisp_pure]
 repeat refine ob ?_
 by_cases h0 : dcS (gcSpec g) g l = 0
 ·
  refine awR [] [none, none] ?_
  simp only [(id F_dAp), seval, cGrp, h0]
  repeat refine ob ?_
  refine awF ?_
  refine awK ?_
  simp only [(id F_dAp), seval]
  by_cases hcl : c.length = l.length
  ·
   have hcp : (c.length : Int) = (l.length : Int) := by omega
   refine awR [] [none, none, none, none, none] ?_
   simp only [(id F_dAp), seval, cGrp, h0, hcp]
   repeat refine ob ?_
   refine awF ?_
   refine awK ?_
   simp only [(id F_dAp), seval]
   by_cases hft : ftL c l 0 = true
   ·
    refine awR [] [none, none, none, none] ?_
    simp only [(id F_dAp), seval, cGrp, h0, hcp, hft, flat_pure cDisp_pure, flat_pure cI_pure]
    repeat refine ob ?_
    refine ⟨_, (chooses_A l c hcl (by have := hl.1.1; omega)), (by first | rfl | simp [allA, pure1, pureCs, pureC, A1.cells, cGrp, flat_pure cEst_pure, flat_pure cDebt_pure]), ?_⟩
    try unfold Later
    try simp only [(id F_dAp), seval, cGrp, h0, hcp, hft, flat_pure cDisp_pure, flat_pure cI_pure]
    repeat refine ob ?_
    refine awF ?_
    refine awK ?_
    simp only [(id F_dAp), seval]
    refine awR [31] [none, none, none, none] ?_
    simp only [(id F_dAp), seval, cGrp, h0, hcp, hft]
    repeat refine ob ?_
    refine ⟨_, copyGroup_I g hg _ _ (fun y B hB => ?_), ?_⟩
    ·
     simp only [up_apply] at hB
     repeat (split at hB; · omega)
     cases hB
    rintro res H' nxA ⟨ps0, s0, t0, hps0, rfl, rfl⟩
    simp only [(id F_dAp), seval, (id SD)]
    repeat refine ob ?_
    have hdx := dcS_ex h0
    have hl8 := hdx.1
    have hn1 := hg.1
    refine awR [] [none, none, none] ?_
    simp only [(id F_dAp), seval, cGrp, h0, hcp, hft]
    repeat refine ob ?_
    refine awp_on (tbl 103 38 ps0) [1, 2, 6, 7, 9, 32, 33, 34] [6, 9, 220] (by intro y B h; obtain ⟨a, r, rfl, h2, h3⟩ := tbl_some h; right; simp only [up_apply]; (repeat rw [if_neg (by omega)]); unfold orT; rw [h]) ?_
    try unfold Later
    try simp only [(id F_dAp), seval, cGrp, h0, hcp, hft]
    repeat' first|apply awS|apply awB
    refine awp_loopw (fun n st => ∃ k ps nx, k ≤ l.length ∧ n = l.length - k ∧ apF c (l.drop k) k (ps.map (·.1)) = apF c l 0 (g.ests.map clE) ∧ ps.length = g.ests.length ∧ shp (ps.map (·.1)) = shp g.ests ∧ st = ⟨mkT [(1, .val (.one (.sh 3 l.length (flat cDisp l)))), (2, .val (.one (.sh 1 c.length (flat cI c)))), (6, .val (.one (.ptr 6 1 0))), (7, one (.int .i64 0)), (9, .val (.one (.ptr 9 nxA 0))), (32, .val (.one (.sh 3 l.length (flat cDisp l)))), (33, one (.int .i64 l.length)), (34, one (.int .i64 k))], mkOn (tbl 103 38 ps) [(6, zB 1), (9, ⟨nxA, 28, 2, 1, [.own 220 s0 g.ests.length 5, .sh 4 (g.debts.map clD).length (flat cDebt (g.debts.map clD))]⟩), (220, ⟨s0, 36, 5, g.ests.length, eRw (fOwn 103) ps 0⟩)], nx, 0⟩) (l.length) ⟨0, ps0, _, by omega, by omega, by rw [hps0]; rfl, by have := congrArg List.length hps0; simpa using this, by rw [hps0]; exact clE_shp _, rfl⟩ ?_
    rintro n0 st ⟨k, ps, nx0, hk, rfl, hap, hpl, hsh, rfl⟩
    by_cases hlt0 : (k : Int) < (l.length : Int)
    ·
     refine awR [] [none] ?_
     simp only [(id F_dAp), seval, cGrp, h0, hcp, hft, hlt0]
     repeat refine ob ?_
     refine awT ?_
     refine awK ?_
     simp only [(id F_dAp), seval]
     have hkl : k < l.length := by omega
     have hat := flat_at cDisp_len l k hkl
     obtain ⟨d, hXd⟩ : ∃ d, l[k] = d := ⟨_, rfl⟩
     have hdm : d ∈ l := hXd ▸ List.getElem_mem hkl
     obtain ⟨x1, x2, x3, x4⟩ := exB_lt (hdx.2 d hdm)
     have hfk := ft_at hft k hkl
     rw [Nat.zero_add, hXd] at hfk
     rw [hXd] at hat
     refine awR [] [none, none, none, none, none, none] ?_
     simp only [(id F_dAp), seval, cGrp, h0, hcp, hft, hlt0, hat, cDisp]
     repeat refine ob ?_
     have hkc : k < c.length := by omega
     have hatc := flat_at cI_len c k hkc
     rw [Nat.mul_one] at hatc
     have hxg : c.getD k 0 = c[k] := by simp [List.getD_eq_getElem?_getD, hkc]
     obtain ⟨x, hcx⟩ : ∃ x, c[k] = x := ⟨_, rfl⟩
     rw [hcx] at hatc hxg
     rw [hxg] at hfk
     obtain ⟨y, hxy⟩ : ∃ y : Nat, x = y := ⟨x.toNat, by omega⟩
     subst hxy
     have hyl : y < d.opts.length := by omega
     have hato := flat_at cOpt_len d.opts y hyl
     obtain ⟨op, hopx⟩ : ∃ op, d.opts[y] = op := ⟨_, rfl⟩
     rw [hopx] at hato
     have hop : cqR op.amount := hl.2 d hdm op (hopx ▸ List.getElem_mem hyl)
     have hxc : d.opts.getD (c.getD k 0).toNat default = op := by rw [hxg, Int.toNat_natCast, List.getD_eq_getElem?_getD, List.getElem?_eq_getElem hyl, hopx]; rfl
     obtain ⟨q, hq⟩ : ∃ q, ps[d.est.toNat]? = some q := ⟨_, List.getElem?_eq_getElem (by omega)⟩
     have hqe : (ps.map (·.1)).getD d.est.toNat ztEst = q.1 := by rw [List.getD_eq_getElem?_getD, List.getElem?_map, hq]; rfl
     have hqc : q.1.claims.length = (g.ests.getD d.est.toNat ztEst).claims.length := by rw [← hqe]; exact shp_cl hsh _
     have hcb := (hg.2.1 _ (show g.ests.getD d.est.toNat ztEst ∈ g.ests by rw [getD_at _ _ (show d.est.toNat < g.ests.length by omega)]; exact List.getElem_mem _)).2.1
     simp only [cOpt] at hato
     repeat' first|apply awS|apply awB
     refine awp_drawsI [50] (by kernel_rfl) (.cons 0 true (.cons 1 true (.cons 2 true (.cons 3 true (.cons 4 true (.cons 5 true (.cons 6 true (.cons 7 true (.cons 8 true (.cons 9 true (.cons 10 true (.cons 11 false .nil)))))))))))) (by kernel_rfl) (gs := [none, none, none, none, none, none, none, none, none, none, none, none]) (by kernel_rfl) (by simp only [(id zS), seval]; rfl) (by decide) ?_
     simp only [(id F_dAp), seval, cGrp, h0, hcp, hft, hlt0, hatc, cI, hato, cLeg, cOpt, (id SD)]
     repeat refine ob ?_
     refine ⟨_, set_I ps (g.debts.map clD) d.est d.cl op q g.ests.length s0 _ _ hpl.symm hn1 hop x1 hq x3 (by omega) (by omega) (by rfl) (fun i r hr => ?_) (fun y B hB => ?_), ?_⟩
     ·
      simp only [up_apply]
      repeat rw [if_neg (by omega)]
      exact tbl_at (by decide) hr
     ·
      simp only [up_apply] at hB
      repeat (split at hB; · omega)
      obtain ⟨a, r, rfl, _, _⟩ := tbl_some hB
      right; omega
     rintro res H' nx' ⟨rfl, hH9⟩
     simp only [(id F_dAp), seval, (id SD)]
     repeat refine ob ?_
     refine awR [] [none, none] ?_
     simp only [(id F_dAp), seval, cGrp, h0, hcp, hft, hlt0]
     repeat refine ob ?_
     have h6 : H' 6 = some _ := hH9 6 _ (by simp only [up_apply]; rw [if_neg (by omega)]; rfl)
     have h9 : H' 9 = some _ := hH9 9 _ (by simp only [up_apply]; rw [if_neg (by omega)]; rfl)
     have h220 : H' 220 = some _ := hH9 220 _ (by simp only [up_apply]; rw [if_neg (by omega)]; rfl)
     refine ⟨_, wk_on (tbl 103 38 (ps.set d.est.toNat (stC q.1 d.cl.toNat op, q.2))) [1, 2, 6, 7, 9, 32, 33, 34] [6, 9, 220] (tbl_step hq hH9 (fun y B hB => ?tt12) _), l.length - (k + 1), by omega, k + 1, (ps.set d.est.toNat (stC q.1 d.cl.toNat op, q.2)), ?nn12, by omega, rfl, ?ap12, by rw [List.length_set]; exact hpl, ?sh12, ?st12⟩
     case st12 => (simp only [(id F_dAp), seval, h6, h9, h220, eRw_step hq, zB]; try rfl)
     case tt12 =>
      obtain ⟨a, r, rfl, _, _⟩ := tbl_some hB
      simp only [up_apply]
      repeat rw [if_neg (by omega)]
      exact hB
     case ap12 =>
      rw [stE_ps hq]
      rw [List.drop_eq_getElem_cons hkl, hXd] at hap
      simp only [apF, stL] at hap
      rw [hxc] at hap
      exact hap
     case sh12 => rw [stE_ps hq, stE_shp]; exact hsh
    refine awR [] [none] ?_
    simp only [(id F_dAp), seval, cGrp, h0, hcp, hft, hlt0]
    repeat refine ob ?_
    refine awF ?_
    refine awQ ?_
    simp only [(id F_dAp), seval]
    obtain rfl : k = l.length := by omega
    rw [List.drop_length] at hap
    simp only [apF] at hap
    have hnl : (apF c l 0 (g.ests.map clE)).length = g.ests.length := by rw [← hap, List.length_map]; exact hpl
    refine awp_on (tbl 103 38 ps) [1, 2, 6, 7, 9] [220, 6, 9] (by intro y B h; obtain ⟨a, r, rfl, h2, h3⟩ := tbl_some h; right; simp only [up_apply]; (repeat rw [if_neg (by omega)]); exact h) ?_
    simp only [(id F_dAp), seval]
    refine awp_wk (wk_pubsw 103 38 36 (by decide) 220 [(6, _), (9, _)] (by simp) (by decide) g.ests.length _ ps) ?_
    rw [eRw_flat, hap]
    simp only [(id F_dAp), seval]
    refine awp_pubc 220 9 0 (by rfl) (by rfl) (by rfl) (by decide) (by show (5 : Nat) ≠ 0; decide) (by show (2 : Nat) ≠ 0; decide) rfl ?_
    simp only [(id F_dAp), seval]
    refine awR [] [none, none, none] ?_
    simp only [(id F_dAp), seval, cGrp, h0, hcp, hft, hlt0]
    repeat refine ob ?_
    refine awX ?_
    simp only [(id F_dAp), seval, flat_pure cEst_pure, flat_pure cDebt_pure]
    simp [apS, h0, hcl, hft, clG, cGrp, hnl]
   refine awR [] [none, none, none, none] ?_
   simp only [(id F_dAp), seval, cGrp, h0, hcp, hft, flat_pure cDisp_pure, flat_pure cI_pure]
   repeat refine ob ?_
   refine ⟨_, (chooses_A l c hcl (by have := hl.1.1; omega)), (by first | rfl | simp [allA, pure1, pureCs, pureC, A1.cells, cGrp, flat_pure cEst_pure, flat_pure cDebt_pure]), ?_⟩
   try unfold Later
   try simp only [(id F_dAp), seval, cGrp, h0, hcp, hft, flat_pure cDisp_pure, flat_pure cI_pure]
   repeat refine ob ?_
   refine awT ?_
   refine awR [] [none, none, none] ?_
   simp only [(id F_dAp), seval, cGrp, h0, hcp, hft]
   repeat refine ob ?_
   refine awp_wk (wk_cells 6 [.sh 5 0 [], .sh 4 0 []] (by rfl) (by show (2 : Nat) ≠ 0; decide) (by rfl) (fun κ vs h => den_zero h)) ?_
   simp only [(id F_dAp), seval]
   refine awX ?_
   simp only [(id F_dAp), seval]
   simp [apS, h0, hcl, hft, cGrp, flat_nil]
  have hcn : ¬ (c.length : Int) = (l.length : Int) := by omega
  refine awR [] [none, none, none, none, none] ?_
  simp only [(id F_dAp), seval, cGrp, h0, hcn]
  repeat refine ob ?_
  refine awT ?_
  refine awR [] [none, none, none] ?_
  simp only [(id F_dAp), seval, cGrp, h0, hcn]
  repeat refine ob ?_
  refine awp_wk (wk_cells 6 [.sh 5 0 [], .sh 4 0 []] (by rfl) (by show (2 : Nat) ≠ 0; decide) (by rfl) (fun κ vs h => den_zero h)) ?_
  simp only [(id F_dAp), seval]
  refine awX ?_
  simp only [(id F_dAp), seval]
  simp [apS, h0, hcl, cGrp, flat_nil]
 refine awR [] [none, none] ?_
 simp only [(id F_dAp), seval, cGrp, h0]
 repeat refine ob ?_
 refine awT ?_
 refine awR [] [none, none, none, none] ?_
 simp only [(id F_dAp), seval, cGrp, h0]
 repeat refine ob ?_
 refine awp_wk (wk_cells 6 [.sh 5 0 [], .sh 4 0 []] (by rfl) (by show (2 : Nat) ≠ 0; decide) (by rfl) (fun κ vs h => den_zero h)) ?_
 simp only [(id F_dAp), seval]
 refine awX ?_
 simp only [(id F_dAp), seval]
 simp [apS, h0, cGrp, flat_nil]
theorem clX_step (l : List GOpt) (q : Nat) (h : q < l.length) : ((l.take q).map clO ++ l.drop q).set q (clO l[q]) = (l.take (q + 1)).map clO ++ l.drop (q + 1) := by
  have hl : ((l.take q).map clO).length = q := by simp; omega
  rw [List.set_append_right _ _ (by omega), hl, Nat.sub_self, List.drop_eq_getElem_cons h, List.set_cons_zero, List.take_succ_eq_append_getElem h, List.map_append, List.append_assoc]
  rfl
theorem clX_at (l : List GOpt) (q : Nat) (h : q < l.length) : ((l.take q).map clO ++ l.drop q)[q]? = some l[q] := by
  have hl : ((l.take q).map clO).length = q := by simp; omega
  rw [List.getElem?_append_right (by omega), hl, Nat.sub_self, List.drop_eq_getElem_cons h]
  rfl
def F_dDc := And.intro zS (And.intro tf69 (And.intro tf61 (And.intro tf70 (And.intro tf62 (And.intro tf73 (And.intro tf63 (And.intro tf64 (And.intro tf66 (And.intro tf71 (And.intro tf30 (And.intro tf31 (And.intro tf67 (And.intro tf32 (And.intro tf96 (And.intro tf72 (tf100))))))))))))))))
set_option maxRecDepth 100000 in
set_option maxHeartbeats 4000000 in
theorem dDecide_A (g : GGrp) (l : List GDisp) (i op9 : Int) (hg : cqG g) (hgo : grpOK g) (hl : cqD l) : ACall Tryz.prog 25 [.agg (cGrp g), .one (.sh 3 l.length (flat cDisp l)), .one (.lit (.int .i64 i)), .one (.lit (.int .i64 op9))] (.tup [.agg (cGrp (dcG (dcS (gcSpec g) g l) g l i op9).1), .one (.sh 3 (dcG (dcS (gcSpec g) g l) g l i op9).2.1.length (flat cDisp (dcG (dcS (gcSpec g) g l) g l i op9).2.1)), .one (.lit (.int .i64 (dcG (dcS (gcSpec g) g l) g l i op9).2.2))]) := by
 refine acall_of Tryz.func25 rfl (by decide) (N := 103) rfl (by simp) (R := [.cell 8 28, .tmp 9, .tmp 10]) rfl fun en k0 => ?_
 refine awR [] [none, none, none, none] ?_
 simp only [(id F_dDc), seval, cGrp]
 repeat refine ob ?_
 have hK := dCheck_A g l hgo hl.1
 refine awR [] [none, none, none, none] ?_
 simp only [(id F_dDc), seval, cGrp, flat_pure cEst_pure, flat_pure cDebt_pure, flat_pure cDisp_pure]
 repeat refine ob ?_
 refine ⟨_, hK, (by first | rfl | simp [allA, pure1, pureCs, pureC, A1.cells, cGrp, flat_pure cEst_pure, flat_pure cDebt_pure, flat_pure cDisp_pure]), ?_⟩
 try unfold Later
 try simp only [(id F_dDc), seval, cGrp, flat_pure cEst_pure, flat_pure cDebt_pure, flat_pure cDisp_pure]
 repeat refine ob ?_
 by_cases h0 : dcS (gcSpec g) g l = 0
 ·
  refine awR [] [none, none] ?_
  simp only [(id F_dDc), seval, cGrp, h0]
  repeat refine ob ?_
  refine awF ?_
  refine awK ?_
  simp only [(id F_dDc), seval]
  by_cases hi0 : i < 0
  ·
   have hdx := dcS_ex h0
   have hl8 := hdx.1
   have hn1 := hg.1
   refine awR [] [none, none, none, some (26, false), some (26, false), some (26, false), some (26, false), none] ?_
   simp only [(id F_dDc), seval, cGrp, h0, hi0]
   repeat refine ob ?_
   refine awT ?_
   refine awR [] [none, none, none, none] ?_
   simp only [(id F_dDc), seval, cGrp, h0, hi0]
   repeat refine ob ?_
   refine awp_wk (wk_cells 8 [.sh 5 0 [], .sh 4 0 []] (by rfl) (by show (2 : Nat) ≠ 0; decide) (by rfl) (fun κ vs h => den_zero h)) ?_
   simp only [(id F_dDc), seval]
   refine awp_nil 9 98 109 3 (by decide) (by rfl) ?_
   have hD : dcG (0) g l i op9 = (⟨[], []⟩, [], 1) := by
    unfold dcG
    rw [if_pos rfl, if_neg (by omega)]
   refine awX ?_
   simp only [(id F_dDc), seval]
   simp [hD, cGrp, flat_nil]
  by_cases hi1 : (l.length : Int) ≤ i
  ·
   have hdx := dcS_ex h0
   have hl8 := hdx.1
   have hn1 := hg.1
   refine awR [] [none, none, none, some (26, false), some (26, false), some (26, false), some (26, false), none] ?_
   simp only [(id F_dDc), seval, cGrp, h0, hi0, hi1]
   repeat refine ob ?_
   refine awT ?_
   refine awR [] [none, none, none, none] ?_
   simp only [(id F_dDc), seval, cGrp, h0, hi0, hi1]
   repeat refine ob ?_
   refine awp_wk (wk_cells 8 [.sh 5 0 [], .sh 4 0 []] (by rfl) (by show (2 : Nat) ≠ 0; decide) (by rfl) (fun κ vs h => den_zero h)) ?_
   simp only [(id F_dDc), seval]
   refine awp_nil 9 98 109 3 (by decide) (by rfl) ?_
   have hD : dcG (0) g l i op9 = (⟨[], []⟩, [], 1) := by
    unfold dcG
    rw [if_pos rfl, if_neg (by omega)]
   refine awX ?_
   simp only [(id F_dDc), seval]
   simp [hD, cGrp, flat_nil]
  obtain ⟨j, rfl⟩ : ∃ j : Nat, i = (j : Int) := ⟨i.toNat, by omega⟩
  have hjl : j < l.length := by omega
  have hatl := flat_at cDisp_len l j hjl
  obtain ⟨d0, hd0⟩ : ∃ d, l[j] = d := ⟨_, rfl⟩
  rw [hd0] at hatl
  have hgd : l.getD ((j : Nat) : Int).toNat default = d0 := by rw [Int.toNat_natCast, List.getD_eq_getElem?_getD, List.getElem?_eq_getElem hjl, hd0]; rfl
  have hdx := dcS_ex h0
  have hl8 := hdx.1
  have hn1 := hg.1
  refine awR [] [none, none, none, some (26, false), some (26, false), some (26, false), some (26, false), none] ?_
  simp only [(id F_dDc), seval, cGrp, h0, hi0, hi1]
  repeat refine ob ?_
  refine awF ?_
  refine awK ?_
  simp only [(id F_dDc), seval]
  by_cases ho0 : op9 < 0
  ·
   refine awR [] [none, none, none, some (35, false), some (35, false), some (35, false), some (35, false), some (35, false), some (35, false), some (35, false), some (35, false), none] ?_
   simp only [(id F_dDc), seval, cGrp, h0, hi0, hi1, ho0, hatl, cDisp]
   repeat refine ob ?_
   refine awT ?_
   refine awR [] [none, none, none, none] ?_
   simp only [(id F_dDc), seval, cGrp, h0, hi0, hi1, ho0]
   repeat refine ob ?_
   refine awp_wk (wk_cells 8 [.sh 5 0 [], .sh 4 0 []] (by rfl) (by show (2 : Nat) ≠ 0; decide) (by rfl) (fun κ vs h => den_zero h)) ?_
   simp only [(id F_dDc), seval]
   refine awp_nil 9 98 109 3 (by decide) (by rfl) ?_
   have hD : dcG (0) g l j op9 = (⟨[], []⟩, [], 41) := by
    unfold dcG
    rw [if_pos rfl, if_pos (by omega), hgd, if_neg (by omega)]
   refine awX ?_
   simp only [(id F_dDc), seval]
   simp [hD, cGrp, flat_nil]
  by_cases ho1 : (d0.opts.length : Int) ≤ op9
  ·
   refine awR [] [none, none, none, some (35, false), some (35, false), some (35, false), some (35, false), some (35, false), some (35, false), some (35, false), some (35, false), none] ?_
   simp only [(id F_dDc), seval, cGrp, h0, hi0, hi1, ho0, ho1, hatl, cDisp]
   repeat refine ob ?_
   refine awT ?_
   refine awR [] [none, none, none, none] ?_
   simp only [(id F_dDc), seval, cGrp, h0, hi0, hi1, ho0, ho1]
   repeat refine ob ?_
   refine awp_wk (wk_cells 8 [.sh 5 0 [], .sh 4 0 []] (by rfl) (by show (2 : Nat) ≠ 0; decide) (by rfl) (fun κ vs h => den_zero h)) ?_
   simp only [(id F_dDc), seval]
   refine awp_nil 9 98 109 3 (by decide) (by rfl) ?_
   have hD : dcG (0) g l j op9 = (⟨[], []⟩, [], 41) := by
    unfold dcG
    rw [if_pos rfl, if_pos (by omega), hgd, if_neg (by omega)]
   refine awX ?_
   simp only [(id F_dDc), seval]
   simp [hD, cGrp, flat_nil]
  refine awR [] [none, none, none, some (35, false), some (35, false), some (35, false), some (35, false), some (35, false), some (35, false), some (35, false), some (35, false), none] ?_
  simp only [(id F_dDc), seval, cGrp, h0, hi0, hi1, ho0, ho1, hatl, cDisp]
  repeat refine ob ?_
  refine awF ?_
  refine awK ?_
  simp only [(id F_dDc), seval]
  refine awR [47] [none, none, none, none] ?_
  simp only [(id F_dDc), seval, cGrp, h0, hi0, hi1, ho0, ho1]
  repeat refine ob ?_
  refine ⟨_, copyGroup_I g hg _ _ (fun y B hB => ?_), ?_⟩
  ·
   simp only [up_apply] at hB
   repeat (split at hB; · omega)
   cases hB
  rintro res H' nxA ⟨ps0, s0, t0, hps0, rfl, rfl⟩
  simp only [(id F_dDc), seval, (id SD)]
  repeat refine ob ?_
  have hdm : d0 ∈ l := hd0 ▸ List.getElem_mem hjl
  obtain ⟨x1, x2, x3, x4⟩ := exB_lt (hdx.2 d0 hdm)
  obtain ⟨y, hxy⟩ : ∃ y : Nat, op9 = y := ⟨op9.toNat, by omega⟩
  have hyl : y < d0.opts.length := by omega
  have hato := flat_at cOpt_len d0.opts y hyl
  obtain ⟨op, hopx⟩ : ∃ op, d0.opts[y] = op := ⟨_, rfl⟩
  rw [hopx] at hato
  have hop : cqR op.amount := hl.2 d0 hdm op (hopx ▸ List.getElem_mem hyl)
  have hxo : d0.opts.getD op9.toNat default = op := by rw [hxy, Int.toNat_natCast, List.getD_eq_getElem?_getD, List.getElem?_eq_getElem hyl, hopx]; rfl
  have hpl : ps0.length = g.ests.length := by have := congrArg List.length hps0; simpa using this
  have hsh : shp (ps0.map (·.1)) = shp g.ests := by rw [hps0]; exact clE_shp _
  obtain ⟨q0, hq0⟩ : ∃ q, ps0[d0.est.toNat]? = some q := ⟨_, List.getElem?_eq_getElem (by omega)⟩
  have hqe : (ps0.map (·.1)).getD d0.est.toNat ztEst = q0.1 := by rw [List.getD_eq_getElem?_getD, List.getElem?_map, hq0]; rfl
  have hqc : q0.1.claims.length = (g.ests.getD d0.est.toNat ztEst).claims.length := by rw [← hqe]; exact shp_cl hsh _
  have hcb := (hg.2.1 _ (show g.ests.getD d0.est.toNat ztEst ∈ g.ests by rw [getD_at _ _ (show d0.est.toNat < g.ests.length by omega)]; exact List.getElem_mem _)).2.1
  simp only [cOpt] at hato
  have hy9 : op9 = (y : Int) := hxy
  repeat' first|apply awS|apply awB
  refine awp_drawsI [62] (by kernel_rfl) (.cons 0 true (.cons 1 true (.cons 2 true (.cons 3 true (.cons 4 true (.cons 5 true (.cons 6 true (.cons 7 true (.cons 8 true (.cons 9 true (.cons 10 true (.cons 11 true (.cons 12 true (.cons 13 true (.cons 14 false .nil))))))))))))))) (by kernel_rfl) (gs := [none, none, none, none, none, none, none, none, none, none, none, none, none, none, none]) (by kernel_rfl) (by simp only [(id zS), seval]; rfl) (by decide) ?_
  simp only [(id F_dDc), seval, cGrp, h0, hi0, hi1, ho0, ho1, hatl, cDisp, hato, cLeg, cOpt, hy9, (id SD)]
  repeat refine ob ?_
  refine ⟨_, set_I ps0 (g.debts.map clD) d0.est d0.cl op q0 g.ests.length s0 _ _ hpl.symm hn1 hop x1 hq0 x3 (by omega) (by omega) (by rfl) (fun i r hr => ?_) (fun y B hB => ?_), ?_⟩
  ·
   simp only [up_apply]
   repeat rw [if_neg (by omega)]
   exact orT_at (by decide) hr
  ·
   simp only [up_apply] at hB
   repeat (split at hB; · omega)
   rcases orT_some hB with ⟨a, r, rfl, _, _⟩ | h
   ·
    right; omega
   simp only [up_apply] at h
   repeat (split at h; · omega)
   cases h
  rintro res H' nx' ⟨rfl, hH9⟩
  simp only [(id F_dDc), seval, (id SD)]
  repeat refine ob ?_
  have h8 : H' 8 = some _ := hH9 8 _ (by simp only [up_apply]; rw [if_neg (by omega)]; rfl)
  have h12 : H' 12 = some _ := hH9 12 _ (by simp only [up_apply]; rw [if_neg (by omega)]; rfl)
  have h220 : H' 220 = some _ := hH9 220 _ (by simp only [up_apply]; rw [if_neg (by omega)]; rfl)
  refine awp_on (tbl 103 38 (ps0.set d0.est.toNat (stC q0.1 d0.cl.toNat op, q0.2))) [1, 2, 3, 8, 9, 10, 12] [8, 12, 220] (tbl_step hq0 hH9 (fun y B hB => ?tt9) _) ?_
  case tt9 =>
   obtain ⟨a, r, rfl, _, _⟩ := tbl_some hB
   simp only [up_apply]
   repeat rw [if_neg (by omega)]
   unfold orT
   rw [hB]
  simp only [(id F_dDc), seval, h8, h12, h220]
  have hrw : eRw (fOwn 103) ps0 0 = eRw (fOwn 103) (ps0.set d0.est.toNat (stC q0.1 d0.cl.toNat op, q0.2)) 0 := (eRw_step hq0).symm
  rw [hrw]
  have hap : (ps0.set d0.est.toNat (stC q0.1 d0.cl.toNat op, q0.2)).map (·.1) = stL (g.ests.map clE) d0 op9 := by rw [stE_ps hq0, hps0]; unfold stL; rw [hxo]
  have hpl1 : (ps0.set d0.est.toNat (stC q0.1 d0.cl.toNat op, q0.2)).length = g.ests.length := by rw [List.length_set]; exact hpl
  generalize (ps0.set d0.est.toNat (stC q0.1 d0.cl.toNat op, q0.2)) = ps at *
  refine awR [] [none] ?_
  simp only [(id F_dDc), seval, cGrp, h0, hi0, hi1, ho0, ho1]
  repeat refine ob ?_
  refine awR [] [none, none, none] ?_
  simp only [(id F_dDc), seval, cGrp, h0, hi0, hi1, ho0, ho1]
  repeat refine ob ?_
  refine awp_nil 13 99 109 3 (by decide) (by rfl) ?_
  refine awp_on (tbl 103 38 ps) [1, 2, 3, 8, 10, 12, 13, 63, 64, 65] [8, 12, 220, 99] (by intro y B h; obtain ⟨a, r, rfl, h2, h3⟩ := tbl_some h; right; simp only [up_apply]; (repeat rw [if_neg (by omega)]); exact h) ?_
  try unfold Later
  try simp only [(id F_dDc), seval, cGrp, h0, hi0, hi1, ho0, ho1, flat_snoc, clDp, cDisp, List.length_append, List.length_cons, List.length_nil, List.length_map]
  repeat' first|apply awS|apply awB
  refine awp_loopw (fun n st => ∃ i0 out sr nx, i0 ≤ l.length ∧ n = l.length - i0 ∧ rsL j (List.map clDp (l.drop i0)) i0 out = rsL j (List.map clDp l) 0 [] ∧ out.length ≤ i0 ∧ st = ⟨mkT [(1, .val (.one (.sh 3 l.length (flat cDisp l)))), (2, one (.int .i64 (j : Int))), (3, one (.int .i64 (y : Int))), (8, .val (.one (.ptr 8 1 0))), (10, one (.int .i64 0)), (12, .val (.one (.ptr 12 nxA 0))), (13, .val (.one (.own 99 sr out.length 3))), (63, .val (.one (.sh 3 l.length (flat cDisp l)))), (64, one (.int .i64 l.length)), (65, one (.int .i64 i0))], mkOn (tbl 103 38 ps) [(8, zB 1), (12, ⟨nxA, 28, 2, 1, [.own 220 s0 g.ests.length 5, .sh 4 g.debts.length (flat cDebt (g.debts.map clD))]⟩), (220, ⟨s0, 36, 5, g.ests.length, eRw (fOwn 103) ps 0⟩), (99, ⟨sr, 109, 3, out.length, flat cDisp out⟩)], nx, 0⟩) (l.length) ⟨0, [], _, _, by omega, by omega, by rfl, (by first | omega | assumption | rfl | simp | (simp; omega)), rfl⟩ ?_
  rintro n0 st ⟨i0, out, sr, nx0, hk0, rfl, hL0, hV0_1, rfl⟩
  by_cases hlt0 : i0 < l.length
  ·
   have hI0 : (i0 : Int) < (l.length : Int) := by omega
   have hat0 := flat_at cDisp_len l i0 hlt0
   try rw [Nat.mul_one] at hat0
   rw [List.drop_eq_getElem_cons hlt0] at hL0
   have hdm9 : l[i0] ∈ l := (List.getElem_mem hlt0)
   have hdo := (hl.1.2 _ (List.getElem_mem hlt0)).1
   generalize l[i0] = d at *
   simp only [List.map_cons, List.map_nil, rsL] at hL0
   refine awR [] [none] ?_
   simp only [(id F_dDc), seval, cGrp, h0, hi0, hi1, ho0, ho1, hI0, hat0]
   repeat refine ob ?_
   refine awT ?_
   refine awK ?_
   simp only [(id F_dDc), seval]
   refine awR [] [none, none, none, none, none, none] ?_
   simp only [(id F_dDc), seval, cGrp, h0, hi0, hi1, ho0, ho1, hI0, hat0, cDisp]
   repeat refine ob ?_
   by_cases hkj : i0 = j
   ·
    have yk : (((i0 : Nat) : Int) = (j : Int)) = True := eq_true (by omega)
    refine awR [] [none, none, none] ?_
    simp only [(id F_dDc), seval, cGrp, h0, hi0, hi1, ho0, ho1, hI0, hat0, yk]
    repeat refine ob ?_
    refine awT ?_
    refine awQ ?_
    simp only [(id F_dDc), seval]
    refine awR [] [none, none] ?_
    simp only [(id F_dDc), seval, cGrp, h0, hi0, hi1, ho0, ho1, hI0, hat0, yk]
    repeat refine ob ?_
    repeat refine ob ?_
    refine ⟨_, wk_on (tbl 103 38 ps) [1, 2, 3, 8, 10, 12, 13, 63, 64, 65] [8, 12, 220, 99] (by intro y B h; obtain ⟨a, r, rfl, h2, h3⟩ := tbl_some h; right; simp only [up_apply]; (repeat rw [if_neg (by omega)]); exact h), l.length - (i0 + 1), by omega, i0 + 1, (out), ?a25_sr, ?a25_nx, by omega, rfl, ?i25_0, ?i25_1, ?st25⟩
    case st25 => (simp only [(id F_dDc), seval, flat_snoc, clDp, cDisp, List.length_append, List.length_cons, List.length_nil, List.length_map, cGrp, h0, hi0, hi1, ho0, ho1, hI0, hat0, yk]; first | rfl | (simp [flat_snoc, clDp, cDisp, List.length_append, List.length_cons, List.length_nil, List.length_map, h0, hi0, hi1, ho0, ho1, hI0, hat0, yk, Nat.add_mul]; done))
    case i25_0 => (have hij9 : i0 = j := (by omega); simpa [hij9] using hL0)
    case i25_1 => (first | omega | assumption | (simp; omega) | (simp_all; done))
   have yk : (((i0 : Nat) : Int) = (j : Int)) = False := eq_false (by omega)
   refine awR [] [none, none, none] ?_
   simp only [(id F_dDc), seval, cGrp, h0, hi0, hi1, ho0, ho1, hI0, hat0, yk]
   repeat refine ob ?_
   refine awF ?_
   refine awK ?_
   simp only [(id F_dDc), seval]
   refine awR [75] [none, none, none, none, none] ?_
   simp only [(id F_dDc), seval, cGrp, h0, hi0, hi1, ho0, ho1, hI0, hat0, yk, cDisp, flat_pure cOpt_pure]
   repeat refine ob ?_
   refine ⟨_, cloneOpts_I d.opts hdo _ _ (fun y B hB => ?_), ?_⟩
   ·
    simp only [up_apply] at hB
    repeat (split at hB; · omega)
    obtain ⟨a, r, rfl, _, _⟩ := tbl_some hB
    right; omega
   rintro res H' nx' ⟨s1, rfl, rfl⟩
   simp only [(id F_dDc), seval, (id SD)]
   repeat refine ob ?_
   refine awR [] [none, none, none, none] ?_
   simp only [(id F_dDc), seval, cGrp, h0, hi0, hi1, ho0, ho1, hI0, hat0, yk]
   repeat refine ob ?_
   refine awp_on (tbl 103 38 ps) [1, 2, 3, 8, 10, 12, 13, 63, 64, 65, 14, 15, 78, 79, 80] [8, 12, 220, 99, 15, 1007] (by intro y B h; obtain ⟨a, r, rfl, h2, h3⟩ := tbl_some h; right; simp only [up_apply]; (repeat rw [if_neg (by omega)]); exact h) ?_
   try unfold Later
   try simp only [(id F_dDc), seval, cGrp, h0, hi0, hi1, ho0, ho1, hI0, hat0, yk]
   repeat' first|apply awS|apply awB
   refine awp_loopw (fun n st => ∃ q1 X sc nx, q1 ≤ d.opts.length ∧ n = d.opts.length - q1 ∧ X = (d.opts.take q1).map clO ++ d.opts.drop q1 ∧ X.length = d.opts.length ∧ st = ⟨mkT [(1, .val (.one (.sh 3 l.length (flat cDisp l)))), (2, one (.int .i64 (j : Int))), (3, one (.int .i64 (y : Int))), (8, .val (.one (.ptr 8 1 0))), (10, one (.int .i64 0)), (12, .val (.one (.ptr 12 nxA 0))), (13, .val (.one (.own 99 sr out.length 3))), (63, .val (.one (.sh 3 l.length (flat cDisp l)))), (64, one (.int .i64 l.length)), (65, one (.int .i64 i0)), (14, one (.int .i64 i0)), (15, .val (.one (.ptr 15 (nx0 + 0) 0))), (78, .val (.one (.own 1007 sc d.opts.length 4))), (79, one (.int .i64 d.opts.length)), (80, one (.int .i64 q1))], mkOn (tbl 103 38 ps) [(8, zB 1), (12, ⟨nxA, 28, 2, 1, [.own 220 s0 g.ests.length 5, .sh 4 g.debts.length (flat cDebt (g.debts.map clD))]⟩), (220, ⟨s0, 36, 5, g.ests.length, eRw (fOwn 103) ps 0⟩), (99, ⟨sr, 109, 3, out.length, flat cDisp out⟩), (15, ⟨nx0 + 0, 109, 3, 1, [.lit (.int .i64 d.est), .lit (.int .i64 d.cl), .own 1007 sc d.opts.length 4]⟩), (1007, ⟨sc, 121, 4, d.opts.length, flat cOpt X⟩)], nx, 0⟩) (d.opts.length) ⟨0, d.opts, _, _, by omega, by omega, by simp, rfl, rfl⟩ ?_
   rintro n1 st ⟨q1, X, sc, nx1, hq1, rfl, hX, hXl, rfl⟩
   by_cases hlt1 : (q1 : Int) < (d.opts.length : Int)
   ·
    refine awR [] [none] ?_
    simp only [(id F_dDc), seval, cGrp, h0, hi0, hi1, ho0, ho1, hI0, hat0, yk, hlt1]
    repeat refine ob ?_
    refine awT ?_
    refine awK ?_
    simp only [(id F_dDc), seval]
    refine awR [] [none, none] ?_
    simp only [(id F_dDc), seval, cGrp, h0, hi0, hi1, ho0, ho1, hI0, hat0, yk, hlt1]
    repeat refine ob ?_
    have hqo : q1 < d.opts.length := by omega
    have hqX : q1 < X.length := by omega
    obtain ⟨x, hxq⟩ : ∃ x, d.opts[q1] = x := ⟨_, rfl⟩
    have hXx : X[q1] = x := by
     have h1 := clX_at d.opts q1 hqo
     rw [← hX, List.getElem?_eq_getElem hqX, hxq] at h1
     exact Option.some.inj h1
    have hatX := flat_at cOpt_len X q1 hqX
    rw [hXx] at hatX
    have hox : cqR x.amount := hl.2 d hdm9 x (hxq ▸ List.getElem_mem hqo)
    have hset9 := flat_setf cOpt_len X q1 0 (cRat (clR x.amount)) (clO x) hqX (by simp [cRat]) (by rw [hXx]; simp [cOpt, clO, cRat, spl])
    simp only [cRat, Nat.add_zero] at hset9
    have hfX := flat_length cOpt_len X
    refine awD (scq [1, 3, 5, 7, 9, 11, 13, 15, 17, 18, 21, 23, 24] .nil) [none, none, none, none, none, none, none, none, none, none, none, none, none] ?_
    simp only [(id F_dDc), seval, cGrp, h0, hi0, hi1, ho0, ho1, hI0, hat0, yk, hlt1, hatX, cOpt, cRat, hset9, hfX, Nat.add_zero]
    repeat refine ob ?_
    refine ⟨_, (clean_A x.amount hox), (by first | rfl | simp [allA, pure1, pureCs, pureC, A1.cells, cGrp, flat_pure cEst_pure, flat_pure cDebt_pure, flat_pure cDisp_pure]), ?_⟩
    try unfold Later
    try simp only [(id F_dDc), seval, cGrp, h0, hi0, hi1, ho0, ho1, hI0, hat0, yk, hlt1, hatX, cOpt, cRat, hset9, hfX, Nat.add_zero]
    repeat refine ob ?_
    refine awR [] [none, none] ?_
    simp only [(id F_dDc), seval, cGrp, h0, hi0, hi1, ho0, ho1, hI0, hat0, yk, hlt1]
    repeat refine ob ?_
    repeat refine ob ?_
    refine ⟨_, wk_on (tbl 103 38 ps) [1, 2, 3, 8, 10, 12, 13, 63, 64, 65, 14, 15, 78, 79, 80] [8, 12, 220, 99, 15, 1007] (by intro y B h; obtain ⟨a, r, rfl, h2, h3⟩ := tbl_some h; right; simp only [up_apply]; (repeat rw [if_neg (by omega)]); exact h), d.opts.length - (q1 + 1), by omega, q1 + 1, X.set q1 (clO x), ?sc34, ?nn34, by omega, rfl, ?hx34, by rw [List.length_set]; exact hXl, ?st34⟩
    case st34 => (simp only [(id F_dDc), seval, hset9]; first | rfl | (simp; done))
    case hx34 => rw [hX, ← hxq]; exact clX_step d.opts q1 hqo
   refine awR [] [none] ?_
   simp only [(id F_dDc), seval, cGrp, h0, hi0, hi1, ho0, ho1, hI0, hat0, yk, hlt1]
   repeat refine ob ?_
   refine awF ?_
   refine awQ ?_
   simp only [(id F_dDc), seval]
   obtain rfl : q1 = d.opts.length := by omega
   rw [List.take_length, List.drop_length, List.append_nil] at hX
   subst hX
   refine awp_pubc 1007 15 2 (by rfl) (by rfl) (by rfl) (by decide) (by show (4 : Nat) ≠ 0; decide) (by show (3 : Nat) ≠ 0; decide) rfl ?_
   simp only [(id F_dDc), seval]
   refine awR [] [none, none, none, none, none] ?_
   simp only [(id F_dDc), seval, cGrp, h0, hi0, hi1, ho0, ho1, hI0, hat0, yk, hlt1]
   repeat refine ob ?_
   refine awR [] [none, none] ?_
   simp only [(id F_dDc), seval, cGrp, h0, hi0, hi1, ho0, ho1, hI0, hat0, yk, hlt1]
   repeat refine ob ?_
   repeat refine ob ?_
   refine ⟨_, wk_on (tbl 103 38 ps) [1, 2, 3, 8, 10, 12, 13, 63, 64, 65] [8, 12, 220, 99] (by intro y B h; obtain ⟨a, r, rfl, h2, h3⟩ := tbl_some h; right; simp only [up_apply]; (repeat rw [if_neg (by omega)]); exact h), l.length - (i0 + 1), by omega, i0 + 1, (out ++ [clDp d]), ?a37_sr, ?a37_nx, by omega, rfl, ?i37_0, ?i37_1, ?st37⟩
   case st37 => (simp only [(id F_dDc), seval, flat_snoc, clDp, cDisp, List.length_append, List.length_cons, List.length_nil, List.length_map, cGrp, h0, hi0, hi1, ho0, ho1, hI0, hat0, yk, hlt1]; first | rfl | (simp [flat_snoc, clDp, cDisp, List.length_append, List.length_cons, List.length_nil, List.length_map, h0, hi0, hi1, ho0, ho1, hI0, hat0, yk, hlt1, Nat.add_mul]; done))
   case i37_0 => (have hij9 : ¬ i0 = j := (by omega); simpa [hij9] using hL0)
   case i37_1 => (first | omega | assumption | (simp; omega) | (simp_all; done))
  obtain rfl : i0 = l.length := by omega
  have hI0 : ¬ (l.length : Int) < (l.length : Int) := by omega
  rw [List.drop_length] at hL0
  simp only [List.map_cons, List.map_nil, rsL] at hL0
  refine awR [] [none] ?_
  simp only [(id F_dDc), seval, cGrp, h0, hi0, hi1, ho0, ho1, hI0]
  repeat refine ob ?_
  refine awF ?_
  refine awQ ?_
  simp only [(id F_dDc), seval]
  refine awp_pub (t := 13) (by rfl) (by rfl) (by decide) (by rfl) ?_
  simp only [(id F_dDc), seval]
  refine awp_on (tbl 103 38 ps) [8, 10, 12, 13] [220, 8, 12] (by intro y B h; obtain ⟨a, r, rfl, h2, h3⟩ := tbl_some h; right; simp only [up_apply]; (repeat rw [if_neg (by omega)]); exact h) ?_
  simp only [(id F_dDc), seval]
  refine awp_wk (wk_pubsw 103 38 36 (by decide) 220 [(8, _), (12, _)] (by simp) (by decide) g.ests.length _ ps) ?_
  have hnl : (stL (g.ests.map clE) d0 op9).length = g.ests.length := by rw [← hap, List.length_map]; exact hpl1
  rw [eRw_flat, hap]
  simp only [(id F_dDc), seval]
  refine awp_pubc 220 12 0 (by rfl) (by rfl) (by rfl) (by decide) (by show (5 : Nat) ≠ 0; decide) (by show (2 : Nat) ≠ 0; decide) rfl ?_
  simp only [(id F_dDc), seval]
  refine awR [] [none, none, none, none, none] ?_
  simp only [(id F_dDc), seval, cGrp, h0, hi0, hi1, ho0, ho1, hI0]
  repeat refine ob ?_
  have hD : dcG 0 g l j (y : Int) = (⟨stL (g.ests.map clE) d0 op9, g.debts.map clD⟩, (l.eraseIdx j).map clDp, 0) := by
   rw [← hy9]
   unfold dcG
   rw [if_pos rfl, if_pos (by omega), hgd, if_pos (by omega)]
   try rfl
  have ho : out = (l.eraseIdx j).map clDp := by rw [hL0]; exact rsL_er j l
  refine awX ?_
  simp only [(id F_dDc), seval, flat_pure cEst_pure, flat_pure cDebt_pure, flat_pure cDisp_pure]
  simp [hD, cGrp, hnl, ← ho]
 refine awR [] [none, none] ?_
 simp only [(id F_dDc), seval, cGrp, h0]
 repeat refine ob ?_
 refine awT ?_
 refine awR [] [none, none, none, none, none] ?_
 simp only [(id F_dDc), seval, cGrp, h0]
 repeat refine ob ?_
 refine awp_wk (wk_cells 8 [.sh 5 0 [], .sh 4 0 []] (by rfl) (by show (2 : Nat) ≠ 0; decide) (by rfl) (fun κ vs h => den_zero h)) ?_
 simp only [(id F_dDc), seval]
 refine awp_nil 9 98 109 3 (by decide) (by rfl) ?_
 have hD : dcG (dcS (gcSpec g) g l) g l i op9 = (⟨[], []⟩, [], dcS (gcSpec g) g l) := by
  unfold dcG
  rw [if_neg h0]
 refine awX ?_
 simp only [(id F_dDc), seval]
 simp [hD, cGrp, flat_nil]
end Go.Proofs.YtinaeglgfomlaaaGreatDoor
