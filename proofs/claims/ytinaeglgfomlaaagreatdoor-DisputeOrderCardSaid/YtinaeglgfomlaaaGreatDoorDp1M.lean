/- The builder of disputes: the list a row of the caller's own, and the options of one chosen dispute too; walked by the abstract machine. -/
import Derived.Test.YtinaeglgfomlaaaGreatDoorDi1M
import Derived.Test.YtinaeglgfomlaaaGreatDoorSplM
import Derived.Test.YtinaeglgfomlaaaGreatDoorAw29M
import Derived.Test.YtinaeglgfomlaaaGreatDoorDc1M
set_option linter.unusedVariables false
set_option linter.unusedSimpArgs false
set_option linter.defProp false
set_option linter.unnecessarySimpa false
section
/- The builder of disputes: the list a row of the caller's own, and the options of one chosen dispute too; walked by the abstract machine. -/
namespace Go.Proofs.YtinaeglgfomlaaaGreatDoor
open Go Go.RowKit
def opK (kk : Nat) (l : List GDisp) : List GOpt := (l.map (·.opts)).getD kk []
def cellsK (kk so : Nat) (l : List GDisp) : List C := if kk < l.length then spl (flat cDisp l) (kk * 3 + 2) [.own 3066 so (opK kk l).length 4] else flat cDisp l
def exK (kk so : Nat) (H : Hp) (l : List GDisp) : Hp := if kk < l.length then up H 3066 (some ⟨so, 121, 4, (opK kk l).length, flat cOpt (opK kk l)⟩) else H
def okD (d : GDisp) : Prop := 1 ≤ d.opts.length ∧ d.opts.length ≤ 3 ∧ ∀ y ∈ d.opts, opG y
theorem spE_len : ∀ (l : List GEst) (i : Nat) (out : List Leg), (∀ e ∈ l, e.claims.length ≤ 1000000) → (spE l i out).length ≤ out.length + 1000000 * l.length
  | [], _, _, _ => by simp [spE]
  | e :: l, i, out, h => by
    have h1 := spE_len l (i + 1) (spC i out e.claims.length) fun x hx => h x (List.mem_cons_of_mem _ hx)
    have h2 := h e (by simp)
    rw [spC_len] at h1
    simp only [spE, List.length_cons]
    omega
theorem opK_old {kk : Nat} {l : List GDisp} (d : GDisp) (h : kk < l.length) : opK kk (l ++ [d]) = opK kk l := by
  simp only [opK, List.getD_eq_getElem?_getD, List.map_append]
  rw [List.getElem?_append_left (by simpa using h)]
theorem opK_new {kk : Nat} {l : List GDisp} (d : GDisp) (h : l.length = kk) : opK kk (l ++ [d]) = d.opts := by
  simp [opK, List.getD_eq_getElem?_getD, ← h]
theorem spl_one_append (cs ds : List C) (i : Nat) (x : C) (h : i < cs.length) : spl (cs ++ ds) i [x] = spl cs i [x] ++ ds := by
  simp only [spl, List.length_singleton, List.append_assoc]
  rw [List.take_append_of_le_length (by omega), List.drop_append_of_le_length (by omega)]
theorem cK_len (kk so : Nat) (l : List GDisp) : (cellsK kk so l).length = l.length * 3 := by
  have h1 := flat_length cDisp_len l
  unfold cellsK
  split
  · rw [spl_len1 _ _ _ (by omega), h1]
  exact h1
theorem cK_nil (kk so : Nat) : cellsK kk so [] = [] := by simp [cellsK, flat_nil]
theorem exK_nil (kk so : Nat) (H : Hp) : exK kk so H [] = H := by simp [exK]
theorem cK_old {kk : Nat} (so : Nat) {l : List GDisp} (d : GDisp) (h : ¬ l.length = kk) : cellsK kk so (l ++ [d]) = cellsK kk so l ++ [.lit (.int .i64 d.est), .lit (.int .i64 d.cl), .sh 4 d.opts.length (flat cOpt d.opts)] := by
  have h1 := flat_length cDisp_len l
  unfold cellsK
  by_cases hk : kk < l.length
  · rw [if_pos hk, if_pos (by simp; omega), opK_old d hk, flat_snoc, spl_one_append _ _ _ _ (by omega)]; rfl
  rw [if_neg hk, if_neg (by simp; omega), flat_snoc]; rfl
theorem cK_new {kk : Nat} (so0 so : Nat) {l : List GDisp} (d : GDisp) (h : l.length = kk) : cellsK kk so (l ++ [d]) = cellsK kk so0 l ++ [.lit (.int .i64 d.est), .lit (.int .i64 d.cl), .own 3066 so d.opts.length 4] := by
  have h1 := flat_length cDisp_len l
  unfold cellsK
  rw [if_pos (show kk < (l ++ [d]).length by simp; omega), if_neg (show ¬ kk < l.length by omega), opK_new d h, flat_snoc]
  simp only [spl, cDisp, List.length_singleton]
  rw [List.take_append, List.drop_append, List.take_of_length_le (by omega), List.drop_eq_nil_of_le (by omega)]
  have h2 : kk * 3 + 2 - (flat cDisp l).length = 2 := by omega
  have h3 : kk * 3 + 2 + 1 - (flat cDisp l).length = 3 := by omega
  rw [h2, h3]
  simp
theorem exK_old {kk : Nat} (so : Nat) (H : Hp) {l : List GDisp} (d : GDisp) (h : ¬ l.length = kk) : exK kk so H (l ++ [d]) = exK kk so H l := by
  unfold exK
  by_cases hk : kk < l.length
  · rw [if_pos hk, if_pos (by simp; omega), opK_old d hk]
  rw [if_neg hk, if_neg (by simp; omega)]
theorem exK_new {kk : Nat} (so : Nat) (H : Hp) {l : List GDisp} (d : GDisp) (h : l.length = kk) : exK kk so H (l ++ [d]) = up H 3066 (some ⟨so, 121, 4, d.opts.length, flat cOpt d.opts⟩) := by
  unfold exK
  rw [if_pos (by simp; omega), opK_new d h]
theorem exK_at {kk : Nat} (so : Nat) (H : Hp) {l : List GDisp} (h : l.length = kk) : exK kk so H l = H := by
  unfold exK
  rw [if_neg (by omega)]
theorem exK_lt {kk so : Nat} {H : Hp} {l : List GDisp} (hb : ∀ y B, H y = some B → y < 1000) {y : Nat} {B : Blk} (h : exK kk so H l y = some B) : y < 1000 ∨ y = 3066 := by
  unfold exK at h
  split at h
  · simp only [up_apply] at h
    split at h
    · exact .inr (by omega)
    exact .inl (hb y B h)
  exact .inl (hb y B h)
def F_lDp := And.intro zS (And.intro tf84 (And.intro tf86 (And.intro tf25 (And.intro tf89 (And.intro tf70 (And.intro tf26 (And.intro tf92 (And.intro tf30 (And.intro tf31 (And.intro tf75 (And.intro tf93 (And.intro tf104 (And.intro tf4 (And.intro tf79 (And.intro tf99 (And.intro tf72 (tf34)))))))))))))))))
set_option maxRecDepth 100000 in
set_option maxHeartbeats 4000000 in
theorem disputes_I (g : GGrp) (list : List N4) (m kk : Nat) (H : Hp) (ny : Nat) (hng : g.ests.length ≤ 1000000) (hcl : ∀ e ∈ g.ests, e.claims.length ≤ 1000000) (hln : list.length ≤ 9223372036854775807) (hls : ∀ x ∈ list, okN4 x) (hm : m ≤ 1000) (hbH : ∀ y B, H y = some B → y < 1000) :
  ACallI Tryz.prog 20 [.agg (cGrp g), .one (.sh 4 list.length (flat cN4 list)), .one (.lit (.int .i64 m))] H ny
   (fun res H' _ => ∃ l all s so, l.length = min (min list.length m) (spE g.ests 0 []).length ∧ (l.map dLeg ++ all).Perm (spE g.ests 0 []) ∧ (∀ d ∈ l, okD d) ∧ res = .val (.one (.own 1044 s l.length 3)) ∧ H' = mkOn (exK kk so H l) [(1044, ⟨s, 109, 3, l.length, cellsK kk so l⟩)]) := by
 refine acallI_of 1000 Tryz.func20 rfl (by decide) (N := 56) rfl (by simp) (Rl := [.tmp 6]) rfl fun en k0 => ?_
 refine awR [] [none, none] ?_
 simp only [(id F_lDp), seval, cGrp]
 repeat refine ob ?_
 refine awR [] [none] ?_
 simp only [(id F_lDp), seval, cGrp]
 repeat refine ob ?_
 have hSp := spots_A g hng hcl
 have hsl9 := spE_len g.ests 0 [] hcl
 rw [List.length_nil] at hsl9
 refine awR [] [none, none, none] ?_
 simp only [(id F_lDp), seval, cGrp, cGrp, flat_pure cEst_pure, flat_pure cDebt_pure]
 repeat refine ob ?_
 refine ⟨_, hSp, (by first | rfl | simp [allA, pure1, pureCs, pureC, A1.cells, cGrp, flat_pure cEst_pure, flat_pure cDebt_pure, flat_pure cLeg_pure]), ?_⟩
 try unfold Later
 try simp only [(id F_lDp), seval, cGrp, cGrp, flat_pure cEst_pure, flat_pure cDebt_pure]
 repeat refine ob ?_
 refine awR [] [none, none, none] ?_
 simp only [(id F_lDp), seval, cGrp]
 repeat refine ob ?_
 refine awp_nil 7 1044 109 3 (by decide) (by rfl) ?_
 refine awp_on (exK kk 0 H []) [2, 7, 8, 14, 15, 16] [1044] (by intro y B h; right; rw [exK_nil] at h; have h9 := hbH y B h; simp only [up_apply]; (repeat rw [if_neg (by omega)]); exact h) ?_
 try unfold Later
 try simp only [(id F_lDp), seval, cGrp, exK_nil]
 repeat' first|apply awS|apply awB
 refine awp_loopw (fun n st => ∃ j out all s so nx, j ≤ list.length ∧ n = list.length - j ∧ out.length = j ∧ j ≤ m ∧ (out.map dLeg ++ all).Perm (spE g.ests 0 []) ∧ (∀ d ∈ out, okD d) ∧ st = ⟨mkT [(2, one (.int .i64 m)), (7, .val (.one (.own 1044 s out.length 3))), (8, .val (.one (.sh 2 all.length (flat cLeg all)))), (14, .val (.one (.sh 4 list.length (flat cN4 list)))), (15, one (.int .i64 list.length)), (16, one (.int .i64 j))], mkOn (exK kk so H out) [(1044, ⟨s, 109, 3, out.length, cellsK kk so out⟩)], nx, 1000⟩) (list.length) ⟨0, [], spE g.ests 0 [], _, 0, _, by omega, by omega, rfl, by omega, by simp, by simp, by simp only [cK_nil, exK_nil]; rfl⟩ ?_
 rintro n0 st ⟨j, out, all, s, so, nx0, hj0, rfl, hoj, hjm, hperm, hok, rfl⟩
 by_cases hlt0 : (j : Int) < (list.length : Int)
 ·
  have hj : j < list.length := by omega
  have hat0 := flat_at cN4_len list j hj
  obtain ⟨x, hxj⟩ : ∃ x, list[j] = x := ⟨_, rfl⟩
  have hx : okN4 x := hxj ▸ hls _ (List.getElem_mem hj)
  rw [hxj] at hat0
  have hxa : x.a < 65536 := hx.1
  refine awR [] [none] ?_
  simp only [(id F_lDp), seval, cGrp, hlt0, hat0]
  repeat refine ob ?_
  refine awT ?_
  refine awK ?_
  simp only [(id F_lDp), seval]
  refine awR [] [none, none, none, none] ?_
  simp only [(id F_lDp), seval, cGrp, hlt0, hat0, cN4]
  repeat refine ob ?_
  by_cases h1 : (m : Int) ≤ (out.length : Int)
  ·
   refine awR [] [none, none, none, none, none, some (24, false), some (24, false), some (24, false), none] ?_
   simp only [(id F_lDp), seval, cGrp, hlt0, hat0, h1]
   repeat refine ob ?_
   refine awT ?_
   refine awQ ?_
   simp only [(id F_lDp), seval]
   refine awR [] [none, none] ?_
   simp only [(id F_lDp), seval, cGrp, hlt0, hat0, h1]
   repeat refine ob ?_
   refine awp_on (exK kk so H out) [6] [1044] (by intro y B h; right; have h9 := exK_lt hbH h; simp only [up_apply]; (repeat rw [if_neg (by omega)]); exact h) ?_
   simp only [(id F_lDp), seval]
   refine awX ?_
   simp only [(id F_lDp), seval]
   have hpl := hperm.length_eq
   rw [List.length_append, List.length_map] at hpl
   exact ⟨out, all, s, so, by omega, hperm, hok, rfl, rfl⟩
  by_cases h2 : (all.length : Int) = 0
  ·
   refine awR [] [none, none, none, none, none, some (24, false), some (24, false), some (24, false), none] ?_
   simp only [(id F_lDp), seval, cGrp, hlt0, hat0, h1, h2]
   repeat refine ob ?_
   refine awT ?_
   refine awQ ?_
   simp only [(id F_lDp), seval]
   refine awR [] [none, none] ?_
   simp only [(id F_lDp), seval, cGrp, hlt0, hat0, h1, h2]
   repeat refine ob ?_
   refine awp_on (exK kk so H out) [6] [1044] (by intro y B h; right; have h9 := exK_lt hbH h; simp only [up_apply]; (repeat rw [if_neg (by omega)]); exact h) ?_
   simp only [(id F_lDp), seval]
   refine awX ?_
   simp only [(id F_lDp), seval]
   have hpl := hperm.length_eq
   rw [List.length_append, List.length_map] at hpl
   exact ⟨out, all, s, so, by omega, hperm, hok, rfl, rfl⟩
  refine awR [] [none, none, none, none, none, some (24, false), some (24, false), some (24, false), none] ?_
  simp only [(id F_lDp), seval, cGrp, hlt0, hat0, h1, h2]
  repeat refine ob ?_
  refine awF ?_
  refine awK ?_
  simp only [(id F_lDp), seval]
  have hpl := hperm.length_eq
  rw [List.length_append, List.length_map] at hpl
  have w1 := tmodN x.a all.length
  have hkl : x.a % all.length < all.length := Nat.mod_lt _ (by omega)
  obtain ⟨k, hk⟩ : ∃ k, k = x.a % all.length := ⟨_, rfl⟩
  rw [← hk] at w1 hkl
  refine awR [] [none, none, none, none, none, none, none] ?_
  simp only [(id F_lDp), seval, cGrp, hlt0, hat0, h1, h2, cN4, w1]
  repeat refine ob ?_
  by_cases hkk : out.length = kk
  ·
   have hEH : exK kk so H out = H := exK_at so H hkk
   obtain ⟨p, hpk⟩ : ∃ p, all[k] = p := ⟨_, rfl⟩
   have hatl := flat_at cLeg_len all k hkl
   rw [hpk] at hatl
   have hlen1 := cK_len kk so out
   have hal : (flat cLeg all).length = all.length * 2 := flat_length cLeg_len all
   repeat' first|apply awS|apply awB
   refine awp_drawsI [41] (by kernel_rfl) (.cons 0 true (.cons 1 true (.cons 2 true (.cons 3 true (.cons 5 true (.two 4 6 (.cons 6 false (.cons 7 true (.cons 8 false (.cons 9 false (.cons 10 true .nil))))) (.cons 4 true (.cons 7 true (.cons 8 false (.cons 9 false (.cons 10 true .nil))))))))))) (by kernel_rfl) (gs := [none, none, none, none, none, none, none, none, none, none, none]) (by kernel_rfl) (by simp only [(id zS), seval]; rfl) (by decide) ?_
   simp only [(id F_lDp), seval, cGrp, hlt0, hat0, h1, h2, hatl, cLeg, cN4, (id SD)]
   repeat refine ob ?_
   refine ⟨?_, ?_⟩
   ·
    repeat refine ob ?_
    rw [hEH]
    refine ⟨_, opts_I3 x hx _ _ (fun y B hB => ?_), ?_⟩
    ·
     simp only [up_apply] at hB
     repeat (split at hB; · omega)
     have := hbH y B hB; omega
    rintro res H' nx' ⟨l, so1, hl1, hl3, hlg, rfl, rfl⟩
    simp only [(id F_lDp), seval, (id SD), hatl, cLeg, cN4]
    repeat refine ob ?_
    have hk1 : ((k : Int) + 1).toNat = k + 1 := by omega
    have hft := flat_take cLeg_len all k
    have hfd := flat_drop cLeg_len all (k + 1)
    have hfk : List.take ((all.length - (k + 1)) * 2) (flat cLeg (all.drop (k + 1))) = flat cLeg (all.drop (k + 1)) := List.take_of_length_le (by rw [flat_length cLeg_len, List.length_drop]; omega)
    refine awD (scq [1, 3, 5, 9, 11, 13, 15, 6, 16, 19] .nil) [none, none, none, none, none, none, none, none, none, none] ?_
    simp only [(id F_lDp), seval, cGrp, hlt0, hat0, h1, h2, hk1, hft, hfd, hfk, Nat.sub_zero]
    repeat refine ob ?_
    refine awp_pub (t := 8) (by rfl) (by rfl) (by decide) (by rfl) ?_
    simp only [(id F_lDp), seval]
    have hl8 : k + (all.length - (k + 1)) = (all.take k ++ all.drop (k + 1)).length := by simp; omega
    rw [show flat cLeg (all.take k) ++ flat cLeg (all.drop (k + 1)) = flat cLeg (all.take k ++ all.drop (k + 1)) by rw [flat_append]]
    rw [hl8]
    obtain ⟨al2, hal2⟩ : ∃ a, a = all.take k ++ all.drop (k + 1) := ⟨_, rfl⟩
    rw [← hal2]
    refine awR [] [none, none] ?_
    simp only [(id F_lDp), seval, cGrp, hlt0, hat0, h1, h2]
    repeat refine ob ?_
    repeat refine ob ?_
    have hperm2 : ((out ++ [(⟨p.1, p.2, l⟩ : GDisp)]).map dLeg ++ al2).Perm (spE g.ests 0 []) := by
     rw [hal2]
     refine List.Perm.trans ?_ hperm
     rw [List.map_append, List.append_assoc]
     refine List.Perm.append_left _ ?_
     have h1 : all = all.take k ++ (p :: all.drop (k + 1)) := by rw [← hpk, ← List.drop_eq_getElem_cons hkl, List.take_append_drop]
     show (p :: (all.take k ++ all.drop (k + 1))).Perm all
     conv => rhs; rw [h1]
     exact List.perm_middle.symm
    have hokd : ∀ d ∈ (out ++ [(⟨p.1, p.2, l⟩ : GDisp)]), okD d := by
     intro d hd
     rcases List.mem_append.1 hd with h | h
     ·
      exact hok d h
     obtain rfl := List.mem_singleton.1 h
     exact ⟨hl1, hl3, hlg⟩
    have hcn := cK_new so so1 (⟨p.1, p.2, l⟩ : GDisp) hkk
    refine ⟨_, wk_on (exK kk so1 H (out ++ [(⟨p.1, p.2, l⟩ : GDisp)])) [2, 7, 8, 14, 15, 16] [1044] ?pf18, list.length - (j + 1), by omega, j + 1, (out ++ [(⟨p.1, p.2, l⟩ : GDisp)]), al2, ?ss18, so1, ?na18, by omega, rfl, by simp; omega, by omega, hperm2, hokd, ?st18⟩
    case pf18 =>
     intro y B h
     right
     rw [exK_new _ _ _ hkk] at h
     simp only [up_apply] at h ⊢
     by_cases h8 : y = 3066
     ·
      subst h8
      simpa using h
     rw [if_neg h8] at h
     have h9 := hbH y B h
     repeat rw [if_neg (by omega)]
     exact h
    case st18 => (simp only [(id F_lDp), seval, hcn, List.length_append, List.length_cons, List.length_nil]; first | rfl | (simp; done))
   repeat refine ob ?_
   rw [hEH]
   refine ⟨_, opts_I3 x hx _ _ (fun y B hB => ?_), ?_⟩
   ·
    simp only [up_apply] at hB
    repeat (split at hB; · omega)
    have := hbH y B hB; omega
   rintro res H' nx' ⟨l, so1, hl1, hl3, hlg, rfl, rfl⟩
   simp only [(id F_lDp), seval, (id SD), hatl, cLeg, cN4]
   repeat refine ob ?_
   have hk1 : ((k : Int) + 1).toNat = k + 1 := by omega
   have hft := flat_take cLeg_len all k
   have hfd := flat_drop cLeg_len all (k + 1)
   have hfk : List.take ((all.length - (k + 1)) * 2) (flat cLeg (all.drop (k + 1))) = flat cLeg (all.drop (k + 1)) := List.take_of_length_le (by rw [flat_length cLeg_len, List.length_drop]; omega)
   refine awD (scq [1, 3, 5, 9, 11, 13, 15, 6, 16, 19] .nil) [none, none, none, none, none, none, none, none, none, none] ?_
   simp only [(id F_lDp), seval, cGrp, hlt0, hat0, h1, h2, hk1, hft, hfd, hfk, Nat.sub_zero]
   repeat refine ob ?_
   refine awp_pub (t := 8) (by rfl) (by rfl) (by decide) (by rfl) ?_
   simp only [(id F_lDp), seval]
   have hl8 : k + (all.length - (k + 1)) = (all.take k ++ all.drop (k + 1)).length := by simp; omega
   rw [show flat cLeg (all.take k) ++ flat cLeg (all.drop (k + 1)) = flat cLeg (all.take k ++ all.drop (k + 1)) by rw [flat_append]]
   rw [hl8]
   obtain ⟨al2, hal2⟩ : ∃ a, a = all.take k ++ all.drop (k + 1) := ⟨_, rfl⟩
   rw [← hal2]
   refine awR [] [none, none] ?_
   simp only [(id F_lDp), seval, cGrp, hlt0, hat0, h1, h2]
   repeat refine ob ?_
   repeat refine ob ?_
   have hperm2 : ((out ++ [(⟨p.1, p.2, l⟩ : GDisp)]).map dLeg ++ al2).Perm (spE g.ests 0 []) := by
    rw [hal2]
    refine List.Perm.trans ?_ hperm
    rw [List.map_append, List.append_assoc]
    refine List.Perm.append_left _ ?_
    have h1 : all = all.take k ++ (p :: all.drop (k + 1)) := by rw [← hpk, ← List.drop_eq_getElem_cons hkl, List.take_append_drop]
    show (p :: (all.take k ++ all.drop (k + 1))).Perm all
    conv => rhs; rw [h1]
    exact List.perm_middle.symm
   have hokd : ∀ d ∈ (out ++ [(⟨p.1, p.2, l⟩ : GDisp)]), okD d := by
    intro d hd
    rcases List.mem_append.1 hd with h | h
    ·
     exact hok d h
    obtain rfl := List.mem_singleton.1 h
    exact ⟨hl1, hl3, hlg⟩
   have hcn := cK_new so so1 (⟨p.1, p.2, l⟩ : GDisp) hkk
   refine ⟨_, wk_on (exK kk so1 H (out ++ [(⟨p.1, p.2, l⟩ : GDisp)])) [2, 7, 8, 14, 15, 16] [1044] ?pf21, list.length - (j + 1), by omega, j + 1, (out ++ [(⟨p.1, p.2, l⟩ : GDisp)]), al2, ?ss21, so1, ?na21, by omega, rfl, by simp; omega, by omega, hperm2, hokd, ?st21⟩
   case pf21 =>
    intro y B h
    right
    rw [exK_new _ _ _ hkk] at h
    simp only [up_apply] at h ⊢
    by_cases h8 : y = 3066
    ·
     subst h8
     simpa using h
    rw [if_neg h8] at h
    have h9 := hbH y B h
    repeat rw [if_neg (by omega)]
    exact h
   case st21 => (simp only [(id F_lDp), seval, hcn, List.length_append, List.length_cons, List.length_nil]; first | rfl | (simp; done))
  obtain ⟨p, hpk⟩ : ∃ p, all[k] = p := ⟨_, rfl⟩
  have hatl := flat_at cLeg_len all k hkl
  rw [hpk] at hatl
  have hlen1 := cK_len kk so out
  have hal : (flat cLeg all).length = all.length * 2 := flat_length cLeg_len all
  repeat' first|apply awS|apply awB
  refine awp_drawsI [41] (by kernel_rfl) (.cons 0 true (.cons 1 true (.cons 2 true (.cons 3 true (.cons 5 true (.two 4 6 (.cons 6 false (.cons 7 true (.cons 8 false (.cons 9 false (.cons 10 true .nil))))) (.cons 4 true (.cons 7 true (.cons 8 false (.cons 9 false (.cons 10 true .nil))))))))))) (by kernel_rfl) (gs := [none, none, none, none, none, none, none, none, none, none, none]) (by kernel_rfl) (by simp only [(id zS), seval]; rfl) (by decide) ?_
  simp only [(id F_lDp), seval, cGrp, hlt0, hat0, h1, h2, hatl, cLeg, cN4, (id SD)]
  repeat refine ob ?_
  refine ⟨?_, ?_⟩
  ·
   repeat refine ob ?_
   refine ⟨_, opts_I2 x hx _ _ (fun y B hB => ?_), ?_⟩
   ·
    simp only [up_apply] at hB
    repeat (split at hB; · omega)
    have := exK_lt hbH hB; omega
   rintro res H' nx' ⟨l, so1, hl1, hl3, hlg, rfl, rfl⟩
   simp only [(id F_lDp), seval, (id SD), hatl, cLeg, cN4]
   repeat refine ob ?_
   refine awp_pubc 2066 1044 (out.length * 3 + 2) (by rfl) (by rfl) (by (try simp only [(id F_lDp), seval]); rw [List.getElem?_append_right (by rw [cK_len]; omega), cK_len, Nat.add_sub_cancel_left]; rfl) (by decide) (by show (4 : Nat) ≠ 0; decide) (by show (3 : Nat) ≠ 0; decide) rfl ?_
   have hst9 : ∀ q9 : List C, q9.length = 3 → ∀ y, (cellsK kk so out ++ q9).set (out.length * 3 + 2) y = cellsK kk so out ++ q9.set 2 y := fun q9 h9 y => by rw [List.set_append_right _ _ (by rw [cK_len]; omega), cK_len, Nat.add_sub_cancel_left]
   simp only [(id F_lDp), seval]
   rw [hst9 _ (by rfl)]
   simp only [(id F_lDp), seval, List.set_cons_succ, List.set_cons_zero]
   have hk1 : ((k : Int) + 1).toNat = k + 1 := by omega
   have hft := flat_take cLeg_len all k
   have hfd := flat_drop cLeg_len all (k + 1)
   have hfk : List.take ((all.length - (k + 1)) * 2) (flat cLeg (all.drop (k + 1))) = flat cLeg (all.drop (k + 1)) := List.take_of_length_le (by rw [flat_length cLeg_len, List.length_drop]; omega)
   refine awD (scq [1, 3, 5, 9, 11, 13, 15, 6, 16, 19] .nil) [none, none, none, none, none, none, none, none, none, none] ?_
   simp only [(id F_lDp), seval, cGrp, hlt0, hat0, h1, h2, hk1, hft, hfd, hfk, Nat.sub_zero]
   repeat refine ob ?_
   refine awp_pub (t := 8) (by rfl) (by rfl) (by decide) (by rfl) ?_
   simp only [(id F_lDp), seval]
   have hl8 : k + (all.length - (k + 1)) = (all.take k ++ all.drop (k + 1)).length := by simp; omega
   rw [show flat cLeg (all.take k) ++ flat cLeg (all.drop (k + 1)) = flat cLeg (all.take k ++ all.drop (k + 1)) by rw [flat_append]]
   rw [hl8]
   obtain ⟨al2, hal2⟩ : ∃ a, a = all.take k ++ all.drop (k + 1) := ⟨_, rfl⟩
   rw [← hal2]
   refine awR [] [none, none] ?_
   simp only [(id F_lDp), seval, cGrp, hlt0, hat0, h1, h2]
   repeat refine ob ?_
   repeat refine ob ?_
   have hperm2 : ((out ++ [(⟨p.1, p.2, l⟩ : GDisp)]).map dLeg ++ al2).Perm (spE g.ests 0 []) := by
    rw [hal2]
    refine List.Perm.trans ?_ hperm
    rw [List.map_append, List.append_assoc]
    refine List.Perm.append_left _ ?_
    have h1 : all = all.take k ++ (p :: all.drop (k + 1)) := by rw [← hpk, ← List.drop_eq_getElem_cons hkl, List.take_append_drop]
    show (p :: (all.take k ++ all.drop (k + 1))).Perm all
    conv => rhs; rw [h1]
    exact List.perm_middle.symm
   have hokd : ∀ d ∈ (out ++ [(⟨p.1, p.2, l⟩ : GDisp)]), okD d := by
    intro d hd
    rcases List.mem_append.1 hd with h | h
    ·
     exact hok d h
    obtain rfl := List.mem_singleton.1 h
    exact ⟨hl1, hl3, hlg⟩
   have hcn := cK_old so (⟨p.1, p.2, l⟩ : GDisp) hkk
   refine ⟨_, wk_on (exK kk so H (out ++ [(⟨p.1, p.2, l⟩ : GDisp)])) [2, 7, 8, 14, 15, 16] [1044] ?pf25, list.length - (j + 1), by omega, j + 1, (out ++ [(⟨p.1, p.2, l⟩ : GDisp)]), al2, ?ss25, so, ?na25, by omega, rfl, by simp; omega, by omega, hperm2, hokd, ?st25⟩
   case pf25 =>
    intro y B h
    right
    rw [exK_old _ _ _ hkk] at h
    have h9 := exK_lt hbH h
    simp only [up_apply]
    repeat rw [if_neg (by omega)]
    exact h
   case st25 => (simp only [(id F_lDp), seval, hcn, List.length_append, List.length_cons, List.length_nil]; first | rfl | (simp; done))
  repeat refine ob ?_
  refine ⟨_, opts_I2 x hx _ _ (fun y B hB => ?_), ?_⟩
  ·
   simp only [up_apply] at hB
   repeat (split at hB; · omega)
   have := exK_lt hbH hB; omega
  rintro res H' nx' ⟨l, so1, hl1, hl3, hlg, rfl, rfl⟩
  simp only [(id F_lDp), seval, (id SD), hatl, cLeg, cN4]
  repeat refine ob ?_
  refine awp_pubc 2066 1044 (out.length * 3 + 2) (by rfl) (by rfl) (by (try simp only [(id F_lDp), seval]); rw [List.getElem?_append_right (by rw [cK_len]; omega), cK_len, Nat.add_sub_cancel_left]; rfl) (by decide) (by show (4 : Nat) ≠ 0; decide) (by show (3 : Nat) ≠ 0; decide) rfl ?_
  have hst9 : ∀ q9 : List C, q9.length = 3 → ∀ y, (cellsK kk so out ++ q9).set (out.length * 3 + 2) y = cellsK kk so out ++ q9.set 2 y := fun q9 h9 y => by rw [List.set_append_right _ _ (by rw [cK_len]; omega), cK_len, Nat.add_sub_cancel_left]
  simp only [(id F_lDp), seval]
  rw [hst9 _ (by rfl)]
  simp only [(id F_lDp), seval, List.set_cons_succ, List.set_cons_zero]
  have hk1 : ((k : Int) + 1).toNat = k + 1 := by omega
  have hft := flat_take cLeg_len all k
  have hfd := flat_drop cLeg_len all (k + 1)
  have hfk : List.take ((all.length - (k + 1)) * 2) (flat cLeg (all.drop (k + 1))) = flat cLeg (all.drop (k + 1)) := List.take_of_length_le (by rw [flat_length cLeg_len, List.length_drop]; omega)
  refine awD (scq [1, 3, 5, 9, 11, 13, 15, 6, 16, 19] .nil) [none, none, none, none, none, none, none, none, none, none] ?_
  simp only [(id F_lDp), seval, cGrp, hlt0, hat0, h1, h2, hk1, hft, hfd, hfk, Nat.sub_zero]
  repeat refine ob ?_
  refine awp_pub (t := 8) (by rfl) (by rfl) (by decide) (by rfl) ?_
  simp only [(id F_lDp), seval]
  have hl8 : k + (all.length - (k + 1)) = (all.take k ++ all.drop (k + 1)).length := by simp; omega
  rw [show flat cLeg (all.take k) ++ flat cLeg (all.drop (k + 1)) = flat cLeg (all.take k ++ all.drop (k + 1)) by rw [flat_append]]
  rw [hl8]
  obtain ⟨al2, hal2⟩ : ∃ a, a = all.take k ++ all.drop (k + 1) := ⟨_, rfl⟩
  rw [← hal2]
  refine awR [] [none, none] ?_
  simp only [(id F_lDp), seval, cGrp, hlt0, hat0, h1, h2]
  repeat refine ob ?_
  repeat refine ob ?_
  have hperm2 : ((out ++ [(⟨p.1, p.2, l⟩ : GDisp)]).map dLeg ++ al2).Perm (spE g.ests 0 []) := by
   rw [hal2]
   refine List.Perm.trans ?_ hperm
   rw [List.map_append, List.append_assoc]
   refine List.Perm.append_left _ ?_
   have h1 : all = all.take k ++ (p :: all.drop (k + 1)) := by rw [← hpk, ← List.drop_eq_getElem_cons hkl, List.take_append_drop]
   show (p :: (all.take k ++ all.drop (k + 1))).Perm all
   conv => rhs; rw [h1]
   exact List.perm_middle.symm
  have hokd : ∀ d ∈ (out ++ [(⟨p.1, p.2, l⟩ : GDisp)]), okD d := by
   intro d hd
   rcases List.mem_append.1 hd with h | h
   ·
    exact hok d h
   obtain rfl := List.mem_singleton.1 h
   exact ⟨hl1, hl3, hlg⟩
  have hcn := cK_old so (⟨p.1, p.2, l⟩ : GDisp) hkk
  refine ⟨_, wk_on (exK kk so H (out ++ [(⟨p.1, p.2, l⟩ : GDisp)])) [2, 7, 8, 14, 15, 16] [1044] ?pf28, list.length - (j + 1), by omega, j + 1, (out ++ [(⟨p.1, p.2, l⟩ : GDisp)]), al2, ?ss28, so, ?na28, by omega, rfl, by simp; omega, by omega, hperm2, hokd, ?st28⟩
  case pf28 =>
   intro y B h
   right
   rw [exK_old _ _ _ hkk] at h
   have h9 := exK_lt hbH h
   simp only [up_apply]
   repeat rw [if_neg (by omega)]
   exact h
  case st28 => (simp only [(id F_lDp), seval, hcn, List.length_append, List.length_cons, List.length_nil]; first | rfl | (simp; done))
 refine awR [] [none] ?_
 simp only [(id F_lDp), seval, cGrp, hlt0]
 repeat refine ob ?_
 refine awF ?_
 refine awQ ?_
 simp only [(id F_lDp), seval]
 refine awR [] [none, none] ?_
 simp only [(id F_lDp), seval, cGrp, hlt0]
 repeat refine ob ?_
 refine awp_on (exK kk so H out) [6] [1044] (by intro y B h; right; have h9 := exK_lt hbH h; simp only [up_apply]; (repeat rw [if_neg (by omega)]); exact h) ?_
 simp only [(id F_lDp), seval]
 refine awX ?_
 simp only [(id F_lDp), seval]
 have hpl := hperm.length_eq
 rw [List.length_append, List.length_map] at hpl
 exact ⟨out, all, s, so, by omega, hperm, hok, rfl, rfl⟩
end Go.Proofs.YtinaeglgfomlaaaGreatDoor
end
section
/- Plain law of the outcomes' numbers: digits in a mixed radix. No walk. -/
namespace Go.Proofs.YtinaeglgfomlaaaGreatDoor
open Go Go.RowKit
def okCh : List GDisp → List Nat → Prop
  | [], [] => True
  | d :: l, c :: cs => c < d.opts.length ∧ okCh l cs
  | _, _ => False
def prD : List GDisp → Nat
  | [] => 1
  | d :: l => d.opts.length * prD l
theorem okCh_len : ∀ {l : List GDisp} {c : List Nat}, okCh l c → c.length = l.length
  | [], [], _ => rfl
  | d :: l, c :: cs, h => by simp [okCh_len h.2]
  | [], _ :: _, h => h.elim
  | _ :: _, [], h => h.elim
theorem okCh_at : ∀ {l : List GDisp} {c : List Nat}, okCh l c → ∀ i (h : i < l.length) (h' : i < c.length), c[i] < l[i].opts.length
  | d :: l, c :: cs, h, 0, _, _ => h.1
  | d :: l, c :: cs, h, i + 1, h1, h2 => okCh_at h.2 i (by simpa using h1) (by simpa using h2)
  | [], _, _, _, h, _ => absurd h (by simp)
  | _ :: _, [], h, _, _, _ => h.elim
theorem prD_le : ∀ (l : List GDisp), (∀ d ∈ l, d.opts.length ≤ 3) → prD l ≤ 3 ^ l.length
  | [], _ => by decide
  | d :: l, h => by
    have h1 := prD_le l fun x hx => h x (List.mem_cons_of_mem _ hx)
    have h2 := h d (by simp)
    show d.opts.length * prD l ≤ 3 ^ (l.length + 1)
    rw [Nat.pow_succ, Nat.mul_comm]
    exact Nat.mul_le_mul h1 h2
theorem prD_pos : ∀ (l : List GDisp), (∀ d ∈ l, 1 ≤ d.opts.length) → 1 ≤ prD l
  | [], _ => by decide
  | d :: l, h => Nat.mul_pos (h d (by simp)) (prD_pos l fun x hx => h x (List.mem_cons_of_mem _ hx))
theorem cnL_prD : ∀ (l : List GDisp) (n : Nat), n * 3 ^ l.length ≤ 4096 → (∀ d ∈ l, d.opts.length ≤ 3) → cnL l (n : Int) = ((n * prD l : Nat) : Int)
  | [], n, _, _ => by simp [cnL, prD]
  | d :: l, n, h, hd => by
    have h2 := hd d (by simp)
    have h3 : n * d.opts.length * 3 ^ l.length ≤ 4096 := by
      refine Nat.le_trans ?_ h
      rw [List.length_cons, Nat.pow_succ, Nat.mul_comm (3 ^ l.length), ← Nat.mul_assoc]
      exact Nat.mul_le_mul_right _ (Nat.mul_le_mul_left _ h2)
    have h4 : n * d.opts.length ≤ 4096 := Nat.le_trans (Nat.le_mul_of_pos_right _ (Nat.pow_pos (by decide))) h3
    have h5 := cnL_prD l (n * d.opts.length) h3 fun x hx => hd x (List.mem_cons_of_mem _ hx)
    have e : min ((n : Int) * min (d.opts.length : Int) 4097) 4097 = ((n * d.opts.length : Nat) : Int) := by
      have e1 : min (d.opts.length : Int) 4097 = (d.opts.length : Int) := by omega
      have e2 : (n : Int) * (d.opts.length : Int) = ((n * d.opts.length : Nat) : Int) := by norm_cast
      rw [e1, e2]; omega
    show cnL l _ = _
    rw [e, h5]
    congr 1
    rw [Nat.mul_assoc]; rfl
theorem fewD_cn {l : List GDisp} (h : l.length ≤ 6 ∧ ∀ d ∈ l, 1 ≤ d.opts.length ∧ d.opts.length ≤ 3) : cnL l 1 = (prD l : Int) ∧ prD l ≤ 729 ∧ 1 ≤ prD l := by
  have h1 := prD_le l fun d hd => (h.2 d hd).2
  have h2 : 3 ^ l.length ≤ 3 ^ 6 := Nat.pow_le_pow_right (by decide) h.1
  have h3 := cnL_prD l 1 (by omega) fun d hd => (h.2 d hd).2
  exact ⟨by simpa using h3, by omega, prD_pos l fun d hd => (h.2 d hd).1⟩
end Go.Proofs.YtinaeglgfomlaaaGreatDoor
end
