/- The reference's Apply and Decide; walked by the abstract machine. -/
import Derived.Test.YtokmkopihhnggaaGreatDoorCg2M
import Derived.Test.YtokmkopihhnggaaGreatDoorCg3M
set_option linter.unusedVariables false
set_option linter.unusedSimpArgs false
set_option linter.defProp false
namespace Go.Proofs.YtokmkopihhnggaaGreatDoor
open Go Go.RowKit
def ftS (c : List Int) (l : List GDisp) : Int := if c.length = l.length then (if ftL c l 0 = true then 0 else 41) else 4
theorem ftS_ok {c : List Int} {l : List GDisp} (h : ftS c l = 0) : c.length = l.length ∧ ftL c l 0 = true := by
 unfold ftS at h
 by_cases h1 : c.length = l.length
 ·rw [if_pos h1] at h
  by_cases h2 : ftL c l 0 = true
  ·exact ⟨h1, h2⟩
  rw [if_neg h2] at h; cases h
 rw [if_neg h1] at h; cases h
theorem apS_ft (g : GGrp) (l : List GDisp) (c : List Int) : apS 0 g l c = if ftS c l = 0 then (⟨apF c l 0 (clG g).ests, (clG g).debts⟩, 0) else (⟨[], []⟩, ftS c l) := by
 unfold apS ftS
 by_cases h1 : c.length = l.length <;> by_cases h2 : ftL c l 0 = true <;> simp [h1, h2]
def F79 := And.intro zS (And.intro tf141 (And.intro tf22 (And.intro tf142 (And.intro tf134 (And.intro tf7 (And.intro tf135 (And.intro tf138 (tf12))))))))
set_option maxRecDepth 100000 in
set_option maxHeartbeats 4000000 in
theorem fits_A (l : List GDisp) (c : List Int) (hl : l.length ≤ 1000000) : ACall Tryz.prog 65 [.one (.sh 3 l.length (flat cDisp l)), .one (.sh 1 c.length (flat cI c))] (one (.int .i64 (ftS c l))) := by
 refine acall_of Tryz.func65 rfl (by decide) (N := 35) rfl (by simp) (R := [.tmp 4]) rfl fun en k0 => ?_
 refine awN ?_
 simp only [(id F79), seval]
 repeat refine ob ?_
 by_cases hcl : c.length = l.length
 ·
  have hcp : ((c.length : Int) = (l.length : Int)) = True := eq_true (by omega)
  refine awN ?_
  simp only [(id F79), seval, hcp]
  repeat refine ob ?_
  refine awF ?_
  refine awK ?_
  simp only [(id F79), seval]
  refine awN ?_
  simp only [(id F79), seval, hcp]
  repeat refine ob ?_
  refine awp_keep [0, 1, 4, 5] [] ?_
  try unfold Later
  try simp only [(id F79), seval, hcp]
  repeat' first|apply awS|apply awB
  refine awp_loopw (fun n st => ∃ i0 nx, i0 ≤ l.length ∧ n = l.length - i0 ∧ ftL c (l.drop i0) i0 = ftL c l 0 ∧ st = ⟨mkT [(0, .val (.one (.sh 3 l.length (flat cDisp l)))), (1, .val (.one (.sh 1 c.length (flat cI c)))), (4, one (.int .i64 0)), (5, one (.int .i64 i0))], mkH [], nx, 0⟩) (l.length) ⟨0, _, by omega, by omega, by rfl, rfl⟩ ?_
  rintro n0 st ⟨i0, nx0, hk0, rfl, hL0, rfl⟩
  by_cases hlt0 : i0 < l.length
  ·
   have hI0 : (i0 : Int) < (l.length : Int) := by omega
   have hat0 := flat_at cDisp_len l i0 hlt0
   try rw [Nat.mul_one] at hat0
   rw [List.drop_eq_getElem_cons hlt0] at hL0
   have hc0 : i0 < c.length := by omega
   have hatc := flat_at cI_len c i0 hc0
   rw [Nat.mul_one] at hatc
   obtain ⟨x, hcx⟩ : ∃ x, c[i0] = x := ⟨_, rfl⟩
   rw [hcx] at hatc
   have hcd : c[i0]?.getD 0 = x := by rw [List.getElem?_eq_getElem hc0, hcx]; rfl
   generalize l[i0] = d at *
   simp only [ftL] at hL0
   refine awN ?_
   simp only [(id F79), seval, hcp, hI0, hat0, hcd]
   repeat refine ob ?_
   refine awT ?_
   refine awK ?_
   simp only [(id F79), seval]
   by_cases h1 : x < 0
   ·
    refine awD (scT 0 18 .nil) [none, none, none, none, none, none, some (22, false), some (22, false), some (22, false), some (22, false), some (22, false), some (22, false), some (22, false), some (22, false), some (22, false), some (22, false), some (22, false), none] ?_
    simp only [(id F79), seval, hcp, hI0, hat0, hcd, h1, hatc, cI, cDisp, hat0]
    repeat refine ob ?_
    refine awT ?_
    refine awN ?_
    simp only [(id F79), seval, hcp, hI0, hat0, hcd, h1]
    repeat refine ob ?_
    refine awX ?_
    simp only [(id F79), seval]
    have hf : ftL c l 0 = false := by rw [← hL0]; simp [hcd, h1]
    simp [ftS, hcl, hf]
   by_cases h2 : (d.opts.length : Int) ≤ x
   ·
    refine awD (scT 0 18 .nil) [none, none, none, none, none, none, some (22, false), some (22, false), some (22, false), some (22, false), some (22, false), some (22, false), some (22, false), some (22, false), some (22, false), some (22, false), some (22, false), none] ?_
    simp only [(id F79), seval, hcp, hI0, hat0, hcd, h1, h2, hatc, cI, cDisp, hat0]
    repeat refine ob ?_
    refine awT ?_
    refine awN ?_
    simp only [(id F79), seval, hcp, hI0, hat0, hcd, h1, h2]
    repeat refine ob ?_
    refine awX ?_
    simp only [(id F79), seval]
    have hf : ftL c l 0 = false := by rw [← hL0]; simp [hcd, h1, h2]
    simp [ftS, hcl, hf]
   refine awD (scT 0 18 .nil) [none, none, none, none, none, none, some (22, false), some (22, false), some (22, false), some (22, false), some (22, false), some (22, false), some (22, false), some (22, false), some (22, false), some (22, false), some (22, false), none] ?_
   simp only [(id F79), seval, hcp, hI0, hat0, hcd, h1, h2, hatc, cI, cDisp, hat0]
   repeat refine ob ?_
   refine awF ?_
   refine awK ?_
   simp only [(id F79), seval]
   refine awN ?_
   simp only [(id F79), seval, hcp, hI0, hat0, hcd, h1, h2]
   repeat refine ob ?_
   repeat refine ob ?_
   refine ⟨_, wk_keep [0, 1, 4, 5] [], l.length - (i0 + 1), by omega, i0 + 1, ?a12_nx, by omega, rfl, ?i12_0, ?st12⟩
   case st12 => (simp only [(id F79), seval, hcp, hI0, hat0, hcd, h1, h2]; first | rfl | (simp [hcp, hI0, hat0, hcd, h1, h2, Nat.add_mul]; done))
   case i12_0 => (simpa [hcd, h1, h2] using hL0)
  obtain rfl : i0 = l.length := by omega
  have hI0 : ¬ (l.length : Int) < (l.length : Int) := by omega
  rw [List.drop_length] at hL0
  simp only [ftL] at hL0
  refine awN ?_
  simp only [(id F79), seval, hcp, hI0]
  repeat refine ob ?_
  refine awF ?_
  refine awQ ?_
  simp only [(id F79), seval]
  refine awN ?_
  simp only [(id F79), seval, hcp, hI0]
  repeat refine ob ?_
  have hf : ftL c l 0 = true := by rw [← hL0]
  refine awX ?_
  simp only [(id F79), seval]
  simp [ftS, hcl, hf]
 have hcn : ((c.length : Int) = (l.length : Int)) = False := eq_false (by omega)
 refine awN ?_
 simp only [(id F79), seval, hcn]
 repeat refine ob ?_
 refine awT ?_
 refine awN ?_
 simp only [(id F79), seval, hcn]
 repeat refine ob ?_
 refine awX ?_
 simp only [(id F79), seval]
 simp [ftS, hcl]
def F80 := And.intro zS (And.intro tf141 (And.intro tf133 (And.intro tf22 (And.intro tf142 (And.intro tf134 (And.intro tf7 (And.intro tf145 (And.intro tf135 (And.intro tf138 (And.intro tf113 (And.intro tf101 (And.intro tf139 (And.intro tf12 (And.intro tf126 (tf129)))))))))))))))
set_option maxRecDepth 100000 in
set_option maxHeartbeats 4000000 in
theorem rApply_A (g : GGrp) (l : List GDisp) (c : List Int) (hg : cqG g) (hg2 : grpOK2 g) (hl : cqD l) : ACall Tryz.prog 22 [.agg (cGrp g), .one (.sh 3 l.length (flat cDisp l)), .one (.sh 1 c.length (flat cI c))] (.tup [.agg (cGrp (apS (rcS (cgSpec g) g l) g l c).1), .one (.lit (.int .i64 (apS (rcS (cgSpec g) g l) g l c).2))]) := by
 refine acall_of Tryz.func22 rfl (by decide) (N := 52) rfl (by simp) (R := [.cell 6 28, .tmp 7]) rfl fun en k0 => ?_
 refine awN ?_
 simp only [(id F80), seval, cGrp]
 repeat refine ob ?_
 have hK := rCheck_A g l hg2 hl.1
 refine awN ?_
 simp only [(id F80), seval, cGrp, flat_pure cEst_pure, flat_pure cDebt_pure, flat_pure cDisp_pure]
 repeat refine ob ?_
 refine ⟨_, hK, (by first | rfl | simp [allA, pure1, pureCs, pureC, A1.cells, cGrp, flat_pure cEst_pure, flat_pure cDebt_pure]), ?_⟩
 try unfold Later
 try simp only [(id F80), seval, cGrp, flat_pure cEst_pure, flat_pure cDebt_pure, flat_pure cDisp_pure]
 repeat refine ob ?_
 by_cases h0 : rcS (cgSpec g) g l = 0
 ·
  refine awN ?_
  simp only [(id F80), seval, cGrp, h0]
  repeat refine ob ?_
  refine awF ?_
  refine awK ?_
  simp only [(id F80), seval]
  refine awN ?_
  simp only [(id F80), seval, cGrp, h0, flat_pure cDisp_pure, flat_pure cI_pure]
  repeat refine ob ?_
  refine ⟨_, (fits_A l c (by have := hl.1.1; omega)), (by first | rfl | simp [allA, pure1, pureCs, pureC, A1.cells, cGrp, flat_pure cEst_pure, flat_pure cDebt_pure]), ?_⟩
  try unfold Later
  try simp only [(id F80), seval, cGrp, h0, flat_pure cDisp_pure, flat_pure cI_pure]
  repeat refine ob ?_
  by_cases hft : ftS c l = 0
  ·
   refine awN ?_
   simp only [(id F80), seval, cGrp, h0, hft]
   repeat refine ob ?_
   refine awF ?_
   refine awK ?_
   simp only [(id F80), seval]
   refine awR [27] [none, none, none, none] ?_
   simp only [(id F80), seval, cGrp, h0, hft]
   repeat refine ob ?_
   refine ⟨_, rClean_I g hg _ _ (fun y B hB => ?_), ?_⟩
   ·
    simp only [up_apply] at hB
    repeat (split at hB; · omega)
    cases hB
   rintro res H' nxA ⟨ps0, s0, t0, hps0, rfl, rfl⟩
   simp only [(id F80), seval, (id SD)]
   repeat refine ob ?_
   have h0d : dcS (gcSpec g) g l = 0 := by rw [dc_rc, gc_cg]; exact h0
   have hdx := dcS_ex h0d
   have hl8 := hdx.1
   have hn1 := hg.1
   obtain ⟨hcl, hfl9⟩ := ftS_ok hft
   refine awN ?_
   simp only [(id F80), seval, cGrp, h0, hft]
   repeat refine ob ?_
   refine awp_on (tbl 103 38 ps0) [1, 2, 6, 7, 10, 11] [6, 10, 272] (by intro y B h; obtain ⟨a, r, rfl, h2, h3⟩ := tbl_some h; right; simp only [up_apply]; (repeat rw [if_neg (by omega)]); unfold orT; rw [h]) ?_
   try unfold Later
   try simp only [(id F80), seval, cGrp, h0, hft]
   repeat' first|apply awS|apply awB
   refine awp_loopw (fun n st => ∃ k ps nx, k ≤ l.length ∧ n = l.length - k ∧ apF c (l.drop k) k (ps.map (·.1)) = apF c l 0 (g.ests.map clE) ∧ ps.length = g.ests.length ∧ shp (ps.map (·.1)) = shp g.ests ∧ st = ⟨mkT [(1, .val (.one (.sh 3 l.length (flat cDisp l)))), (2, .val (.one (.sh 1 c.length (flat cI c)))), (6, .val (.one (.ptr 6 1 0))), (7, one (.int .i64 0)), (10, .val (.one (.ptr 10 nxA 0))), (11, one (.int .i64 k))], mkOn (tbl 103 38 ps) [(6, zB 1), (10, ⟨nxA, 28, 2, 1, [.own 272 s0 g.ests.length 5, .sh 4 (g.debts.map clD).length (flat cDebt (g.debts.map clD))]⟩), (272, ⟨s0, 36, 5, g.ests.length, eRw (fOwn 103) ps 0⟩)], nx, 0⟩) (l.length) ⟨0, ps0, _, by omega, by omega, by rw [hps0]; rfl, by have := congrArg List.length hps0; simpa using this, by rw [hps0]; exact clE_shp _, rfl⟩ ?_
   rintro n0 st ⟨k, ps, nx0, hk, rfl, hap, hpl, hsh, rfl⟩
   by_cases hlt0 : (k : Int) < (l.length : Int)
   ·
    refine awN ?_
    simp only [(id F80), seval, cGrp, h0, hft, hlt0]
    repeat refine ob ?_
    refine awT ?_
    refine awK ?_
    simp only [(id F80), seval]
    have hkl : k < l.length := by omega
    have hat := flat_at cDisp_len l k hkl
    obtain ⟨d, hXd⟩ : ∃ d, l[k] = d := ⟨_, rfl⟩
    have hdm : d ∈ l := hXd ▸ List.getElem_mem hkl
    obtain ⟨x1, x2, x3, x4⟩ := exB_lt (hdx.2 d hdm)
    have hfk := ft_at hfl9 k hkl
    rw [Nat.zero_add, hXd] at hfk
    rw [hXd] at hat
    have hkc : k < c.length := by omega
    have hatc := flat_at cI_len c k hkc
    rw [Nat.mul_one] at hatc
    have hxg : c.getD k 0 = c[k] := by simp [List.getD_eq_getElem?_getD, hkc]
    obtain ⟨x, hcx⟩ : ∃ x, c[k] = x := ⟨_, rfl⟩
    rw [hcx] at hatc hxg
    rw [hxg] at hfk
    obtain ⟨y, hxy⟩ : ∃ y : Nat, x = y := ⟨x.toNat, by omega⟩
    subst hxy
    have hyl : y < d.opts.length := by omega
    have hato := flat_at cOpt_len d.opts y hyl
    obtain ⟨op, hopx⟩ : ∃ op, d.opts[y] = op := ⟨_, rfl⟩
    rw [hopx] at hato
    have hop : cqR op.amount := hl.2 d hdm op (hopx ▸ List.getElem_mem hyl)
    have hxc : d.opts.getD (c.getD k 0).toNat default = op := by rw [hxg, Int.toNat_natCast, List.getD_eq_getElem?_getD, List.getElem?_eq_getElem hyl, hopx]; rfl
    obtain ⟨q, hq⟩ : ∃ q, ps[d.est.toNat]? = some q := ⟨_, List.getElem?_eq_getElem (by omega)⟩
    have hqe : (ps.map (·.1)).getD d.est.toNat ztEst = q.1 := by rw [List.getD_eq_getElem?_getD, List.getElem?_map, hq]; rfl
    have hqc : q.1.claims.length = (g.ests.getD d.est.toNat ztEst).claims.length := by rw [← hqe]; exact shp_cl hsh _
    have hcb := (hg.2.1 _ (show g.ests.getD d.est.toNat ztEst ∈ g.ests by rw [getD_at _ _ (show d.est.toNat < g.ests.length by omega)]; exact List.getElem_mem _)).2.1
    simp only [cOpt] at hato
    repeat' first|apply awS|apply awB
    refine awp_drawsI [50] (by kernel_rfl) (.cons 0 true (.cons 1 true (.cons 2 true (.cons 3 true (.cons 4 true (.cons 5 true (.cons 6 true (.cons 7 true (.cons 8 true (.cons 9 true (.cons 10 true (.cons 11 true (.cons 12 true (.cons 13 true (.cons 14 true (.cons 15 true (.cons 16 false .nil))))))))))))))))) (by kernel_rfl) (gs := [none, none, none, none, none, none, none, none, none, none, none, none, none, none, none, none, none]) (by kernel_rfl) (by simp only [(id zS), seval]; rfl) (by decide) ?_
    simp only [(id F80), seval, cGrp, h0, hft, hlt0, hat, cDisp, hatc, cI, hato, cLeg, cOpt, (id SD)]
    repeat refine ob ?_
    refine ⟨_, put_I ps (g.debts.map clD) d.est d.cl op q g.ests.length s0 10 nxA _ _ hpl.symm hn1 hop x1 hq x3 (by omega) (by omega) (by decide) (by rfl) (by rfl) (fun i r hr => ?_) (fun y B hB => ?_), ?_⟩
    ·
     simp only [up_apply]
     repeat rw [if_neg (by omega)]
     exact tbl_at (by decide) hr
    ·
     simp only [up_apply] at hB
     repeat (split at hB; · omega)
     obtain ⟨a, r, rfl, _, _⟩ := tbl_some hB
     right; omega
    rintro res H' nx' ⟨rfl, hH9⟩
    simp only [(id F80), seval, (id SD)]
    repeat refine ob ?_
    refine awN ?_
    simp only [(id F80), seval, cGrp, h0, hft, hlt0]
    repeat refine ob ?_
    have h6 : H' 6 = some _ := hH9 6 _ (by simp only [up_apply]; rw [if_neg (by omega)]; rfl)
    have h10 : H' 10 = some _ := hH9 10 _ (by simp only [up_apply]; rw [if_neg (by omega)]; rfl)
    have h272 : H' 272 = some _ := hH9 272 _ (by simp only [up_apply]; rw [if_neg (by omega)]; rfl)
    refine ⟨_, wk_on (tbl 103 38 (ps.set d.est.toNat (stC q.1 d.cl.toNat op, q.2))) [1, 2, 6, 7, 10, 11] [6, 10, 272] (tbl_step hq hH9 (fun y B hB => ?tt11) _), l.length - (k + 1), by omega, k + 1, (ps.set d.est.toNat (stC q.1 d.cl.toNat op, q.2)), ?nn11, by omega, rfl, ?ap11, by rw [List.length_set]; exact hpl, ?sh11, ?st11⟩
    case st11 => (simp only [(id F80), seval, h6, h10, h272, eRw_step hq, zB]; try rfl)
    case tt11 =>
     obtain ⟨a, r, rfl, _, _⟩ := tbl_some hB
     simp only [up_apply]
     repeat rw [if_neg (by omega)]
     exact hB
    case ap11 =>
     rw [stE_ps hq]
     rw [List.drop_eq_getElem_cons hkl, hXd] at hap
     simp only [apF, stL] at hap
     rw [hxc] at hap
     exact hap
    case sh11 => rw [stE_ps hq, stE_shp]; exact hsh
   refine awN ?_
   simp only [(id F80), seval, cGrp, h0, hft, hlt0]
   repeat refine ob ?_
   refine awF ?_
   refine awQ ?_
   simp only [(id F80), seval]
   obtain rfl : k = l.length := by omega
   rw [List.drop_length] at hap
   simp only [apF] at hap
   have hnl : (apF c l 0 (g.ests.map clE)).length = g.ests.length := by rw [← hap, List.length_map]; exact hpl
   refine awp_on (tbl 103 38 ps) [1, 2, 6, 7, 10] [272, 6, 10] (by intro y B h; obtain ⟨a, r, rfl, h2, h3⟩ := tbl_some h; right; simp only [up_apply]; (repeat rw [if_neg (by omega)]); exact h) ?_
   simp only [(id F80), seval]
   refine awp_wk (wk_pubsw 103 38 36 (by decide) 272 [(6, _), (10, _)] (by simp) (by decide) g.ests.length _ ps) ?_
   rw [eRw_flat, hap]
   simp only [(id F80), seval]
   refine awp_pubc 272 10 0 (by rfl) (by rfl) (by rfl) (by decide) (by show (5 : Nat) ≠ 0; decide) (by show (2 : Nat) ≠ 0; decide) rfl ?_
   simp only [(id F80), seval]
   refine awN ?_
   simp only [(id F80), seval, cGrp, h0, hft, hlt0]
   repeat refine ob ?_
   have hA := apS_ft g l c
   rw [if_pos hft] at hA
   refine awX ?_
   simp only [(id F80), seval, flat_pure cEst_pure, flat_pure cDebt_pure]
   simp [hA, clG, cGrp, hnl]
  refine awN ?_
  simp only [(id F80), seval, cGrp, h0, hft]
  repeat refine ob ?_
  refine awT ?_
  refine awN ?_
  simp only [(id F80), seval, cGrp, h0, hft]
  repeat refine ob ?_
  refine awp_wk (wk_cells 6 [.sh 5 0 [], .sh 4 0 []] (by rfl) (by show (2 : Nat) ≠ 0; decide) (by rfl) (fun κ vs h => den_zero h)) ?_
  simp only [(id F80), seval]
  have hA := apS_ft g l c
  rw [if_neg hft] at hA
  refine awX ?_
  simp only [(id F80), seval]
  simp [hA, cGrp, flat_nil]
 refine awN ?_
 simp only [(id F80), seval, cGrp, h0]
 repeat refine ob ?_
 refine awT ?_
 refine awN ?_
 simp only [(id F80), seval, cGrp, h0]
 repeat refine ob ?_
 refine awp_wk (wk_cells 6 [.sh 5 0 [], .sh 4 0 []] (by rfl) (by show (2 : Nat) ≠ 0; decide) (by rfl) (fun κ vs h => den_zero h)) ?_
 simp only [(id F80), seval]
 refine awX ?_
 simp only [(id F80), seval]
 simp [apS, h0, cGrp, flat_nil]
end Go.Proofs.YtokmkopihhnggaaGreatDoor
