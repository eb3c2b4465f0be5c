/- Arguments of the laws about disputes, opened; few; awake; DisputeCheck's own function. -/
import Derived.Test.YtokmkopihhnggaaGreatDoorDc2M
import Derived.Test.YtokmkopihhnggaaGreatDoorBl6M
import Derived.Test.YtokmkopihhnggaaGreatDoorGu4M
import Derived.Test.YtokmkopihhnggaaGreatDoorCountM
import Derived.Test.YtokmkopihhnggaaGreatDoorChoM
set_option linter.unusedVariables false
set_option linter.unusedSimpArgs false
set_option linter.defProp false
namespace Go.Proofs.YtokmkopihhnggaaGreatDoor
open Go Go.RowKit Go.ChangeShapes Go.WideShapes Go.ChangeAt
theorem awake22_A : ACall Tryz.prog 18 [] (one (.bool true)) :=
 acall_flat (fnOK_of Tryz.func18 (by decide) rfl) [] (.bool true) awake_any
end Go.Proofs.YtokmkopihhnggaaGreatDoor
namespace Go.Proofs.YtokmkopihhnggaaGreatDoor
open Go Go.RowKit
def F87 := And.intro zS (And.intro tf116 (And.intro tf118 (And.intro tf91 (And.intro tf121 (And.intro tf142 (And.intro tf93 (And.intro tf124 (And.intro tf113 (And.intro tf101 (And.intro tf105 (And.intro tf125 (And.intro tf147 (And.intro tf4 (And.intro tf107 (And.intro tf128 (And.intro tf144 (tf103)))))))))))))))))
set_option maxRecDepth 100000 in
set_option maxHeartbeats 4000000 in
theorem disputesP_I (g : GGrp) (list : List N4) (m : Nat) (H : Hp) (ny : Nat) (hng : g.ests.length ≤ 1000000) (hcl : ∀ e ∈ g.ests, e.claims.length ≤ 1000000) (hln : list.length ≤ 9223372036854775807) (hls : ∀ x ∈ list, okN4 x) (hm : m ≤ 1000) (hbH : ∀ y B, H y = some B → y < 1000) :
  ACallI Tryz.prog 19 [.agg (cGrp g), .one (.sh 4 list.length (flat cN4 list)), .one (.lit (.int .i64 m))] H ny
   (fun res H' _ => ∃ l all s, l.length = min (min list.length m) (spE g.ests 0 []).length ∧ (l.map dLeg ++ all).Perm (spE g.ests 0 []) ∧ (∀ d ∈ l, okD d) ∧ res = .val (.one (.own 1044 s l.length 3)) ∧ H' = mkOn H [(1044, ⟨s, 109, 3, l.length, flat cDisp l⟩)]) := by
 refine acallI_of 1000 Tryz.func19 rfl (by decide) (N := 56) rfl (by simp) (Rl := [.tmp 6]) rfl fun en k0 => ?_
 refine awN ?_
 simp only [(id F87), seval, cGrp]
 repeat refine ob ?_
 refine awN ?_
 simp only [(id F87), seval, cGrp]
 repeat refine ob ?_
 have hSp := spots_A g hng hcl
 have hsl9 := spE_len g.ests 0 [] hcl
 rw [List.length_nil] at hsl9
 refine awN ?_
 simp only [(id F87), seval, cGrp, cGrp, flat_pure cEst_pure, flat_pure cDebt_pure]
 repeat refine ob ?_
 refine ⟨_, hSp, (by first | rfl | simp [allA, pure1, pureCs, pureC, A1.cells, cGrp, flat_pure cEst_pure, flat_pure cDebt_pure, flat_pure cLeg_pure]), ?_⟩
 try unfold Later
 try simp only [(id F87), seval, cGrp, cGrp, flat_pure cEst_pure, flat_pure cDebt_pure]
 repeat refine ob ?_
 refine awN ?_
 simp only [(id F87), seval, cGrp]
 repeat refine ob ?_
 refine awp_nil 7 1044 109 3 (by decide) (by rfl) ?_
 refine awp_on H [2, 7, 8, 14, 15, 16] [1044] (by intro y B h; right; have h9 := hbH y B h; simp only [up_apply]; (repeat rw [if_neg (by omega)]); exact h) ?_
 try unfold Later
 try simp only [(id F87), seval, cGrp]
 repeat' first|apply awS|apply awB
 refine awp_loopw (fun n st => ∃ j out all s nx, j ≤ list.length ∧ n = list.length - j ∧ out.length = j ∧ j ≤ m ∧ (out.map dLeg ++ all).Perm (spE g.ests 0 []) ∧ (∀ d ∈ out, okD d) ∧ st = ⟨mkT [(2, one (.int .i64 m)), (7, .val (.one (.own 1044 s out.length 3))), (8, .val (.one (.sh 2 all.length (flat cLeg all)))), (14, .val (.one (.sh 4 list.length (flat cN4 list)))), (15, one (.int .i64 list.length)), (16, one (.int .i64 j))], mkOn H [(1044, ⟨s, 109, 3, out.length, flat cDisp out⟩)], nx, 1000⟩) (list.length) ⟨0, [], spE g.ests 0 [], _, _, by omega, by omega, rfl, by omega, by simp, by simp, rfl⟩ ?_
 rintro n0 st ⟨j, out, all, s, nx0, hj0, rfl, hoj, hjm, hperm, hok, rfl⟩
 by_cases hlt0 : (j : Int) < (list.length : Int)
 ·
  have hj : j < list.length := by omega
  have hat0 := flat_at cN4_len list j hj
  obtain ⟨x, hxj⟩ : ∃ x, list[j] = x := ⟨_, rfl⟩
  have hx : okN4 x := hxj ▸ hls _ (List.getElem_mem hj)
  rw [hxj] at hat0
  have hxa : x.a < 65536 := hx.1
  refine awN ?_
  simp only [(id F87), seval, cGrp, hlt0, hat0]
  repeat refine ob ?_
  refine awT ?_
  refine awK ?_
  simp only [(id F87), seval]
  refine awN ?_
  simp only [(id F87), seval, cGrp, hlt0, hat0, cN4]
  repeat refine ob ?_
  by_cases h1 : (m : Int) ≤ (out.length : Int)
  ·
   refine awR [] [none, none, none, none, none, some (24, false), some (24, false), some (24, false), none] ?_
   simp only [(id F87), seval, cGrp, hlt0, hat0, h1]
   repeat refine ob ?_
   refine awT ?_
   refine awQ ?_
   simp only [(id F87), seval]
   refine awN ?_
   simp only [(id F87), seval, cGrp, hlt0, hat0, h1]
   repeat refine ob ?_
   refine awp_on H [6] [1044] (by intro y B h; right; have h9 := hbH y B h; simp only [up_apply]; (repeat rw [if_neg (by omega)]); exact h) ?_
   simp only [(id F87), seval]
   refine awX ?_
   simp only [(id F87), seval]
   have hpl := hperm.length_eq
   rw [List.length_append, List.length_map] at hpl
   exact ⟨out, all, s, by omega, hperm, hok, rfl, rfl⟩
  by_cases h2 : (all.length : Int) = 0
  ·
   refine awR [] [none, none, none, none, none, some (24, false), some (24, false), some (24, false), none] ?_
   simp only [(id F87), seval, cGrp, hlt0, hat0, h1, h2]
   repeat refine ob ?_
   refine awT ?_
   refine awQ ?_
   simp only [(id F87), seval]
   refine awN ?_
   simp only [(id F87), seval, cGrp, hlt0, hat0, h1, h2]
   repeat refine ob ?_
   refine awp_on H [6] [1044] (by intro y B h; right; have h9 := hbH y B h; simp only [up_apply]; (repeat rw [if_neg (by omega)]); exact h) ?_
   simp only [(id F87), seval]
   refine awX ?_
   simp only [(id F87), seval]
   have hpl := hperm.length_eq
   rw [List.length_append, List.length_map] at hpl
   exact ⟨out, all, s, by omega, hperm, hok, rfl, rfl⟩
  refine awR [] [none, none, none, none, none, some (24, false), some (24, false), some (24, false), none] ?_
  simp only [(id F87), seval, cGrp, hlt0, hat0, h1, h2]
  repeat refine ob ?_
  refine awF ?_
  refine awK ?_
  simp only [(id F87), seval]
  have hpl := hperm.length_eq
  rw [List.length_append, List.length_map] at hpl
  have w1 := tmodN x.a all.length
  have hkl : x.a % all.length < all.length := Nat.mod_lt _ (by omega)
  obtain ⟨k, hk⟩ : ∃ k, k = x.a % all.length := ⟨_, rfl⟩
  rw [← hk] at w1 hkl
  refine awN ?_
  simp only [(id F87), seval, cGrp, hlt0, hat0, h1, h2, cN4, w1]
  repeat refine ob ?_
  obtain ⟨p, hpk⟩ : ∃ p, all[k] = p := ⟨_, rfl⟩
  have hatl := flat_at cLeg_len all k hkl
  rw [hpk] at hatl
  have hlen1 := flat_length cDisp_len out
  have hal : (flat cLeg all).length = all.length * 2 := flat_length cLeg_len all
  repeat' first|apply awS|apply awB
  refine awp_drawsI [41] (by kernel_rfl) (.cons 0 true (.cons 1 true (.cons 2 true (.cons 3 true (.cons 5 true (.two 4 6 (.cons 6 false (.cons 7 true (.cons 8 false (.cons 9 false (.cons 10 true .nil))))) (.cons 4 true (.cons 7 true (.cons 8 false (.cons 9 false (.cons 10 true .nil))))))))))) (by kernel_rfl) (gs := [none, none, none, none, none, none, none, none, none, none, none]) (by kernel_rfl) (by simp only [(id zS), seval]; rfl) (by decide) ?_
  simp only [(id F87), seval, cGrp, hlt0, hat0, h1, h2, hatl, cLeg, cN4, (id SD)]
  repeat refine ob ?_
  refine ⟨?_, ?_⟩
  ·
   repeat refine ob ?_
   refine ⟨_, opts_I2 x hx _ _ (fun y B hB => ?_), ?_⟩
   ·
    simp only [up_apply] at hB
    repeat (split at hB; · omega)
    have := hbH y B hB; omega
   rintro res H' nx' ⟨l, so1, hl1, hl3, hlg, rfl, rfl⟩
   simp only [(id F87), seval, (id SD), hatl, cLeg, cN4]
   repeat refine ob ?_
   refine awp_pubc 2066 1044 (out.length * 3 + 2) (by rfl) (by rfl) (by (try simp only [(id F87), seval]); rw [List.getElem?_append_right (by rw [flat_length cDisp_len]; omega), flat_length cDisp_len, Nat.add_sub_cancel_left]; rfl) (by decide) (by show (4 : Nat) ≠ 0; decide) (by show (3 : Nat) ≠ 0; decide) rfl ?_
   have hst9 : ∀ q9 : List C, q9.length = 3 → ∀ y, (flat cDisp out ++ q9).set (out.length * 3 + 2) y = flat cDisp out ++ q9.set 2 y := fun q9 h9 y => by rw [List.set_append_right _ _ (by rw [flat_length cDisp_len]; omega), flat_length cDisp_len, Nat.add_sub_cancel_left]
   simp only [(id F87), seval]
   rw [hst9 _ (by rfl)]
   simp only [(id F87), seval, List.set_cons_succ, List.set_cons_zero]
   have hk1 : ((k : Int) + 1).toNat = k + 1 := by omega
   have hft := flat_take cLeg_len all k
   have hfd := flat_drop cLeg_len all (k + 1)
   have hfk : List.take ((all.length - (k + 1)) * 2) (flat cLeg (all.drop (k + 1))) = flat cLeg (all.drop (k + 1)) := List.take_of_length_le (by rw [flat_length cLeg_len, List.length_drop]; omega)
   refine awD (scq [1, 3, 5] (scT 4 4 (scq [6, 16, 19] .nil))) [none, none, none, none, none, none, none, none, none, none] ?_
   simp only [(id F87), seval, cGrp, hlt0, hat0, h1, h2, hk1, hft, hfd, hfk, Nat.sub_zero]
   repeat refine ob ?_
   refine awp_pub (t := 8) (by rfl) (by rfl) (by decide) (by rfl) ?_
   simp only [(id F87), seval]
   have hl8 : k + (all.length - (k + 1)) = (all.take k ++ all.drop (k + 1)).length := by simp; omega
   rw [show flat cLeg (all.take k) ++ flat cLeg (all.drop (k + 1)) = flat cLeg (all.take k ++ all.drop (k + 1)) by rw [flat_append]]
   rw [hl8]
   obtain ⟨al2, hal2⟩ : ∃ a, a = all.take k ++ all.drop (k + 1) := ⟨_, rfl⟩
   rw [← hal2]
   refine awN ?_
   simp only [(id F87), seval, cGrp, hlt0, hat0, h1, h2]
   repeat refine ob ?_
   repeat refine ob ?_
   have hperm2 : ((out ++ [(⟨p.1, p.2, l⟩ : GDisp)]).map dLeg ++ al2).Perm (spE g.ests 0 []) := by
    rw [hal2]
    refine List.Perm.trans ?_ hperm
    rw [List.map_append, List.append_assoc]
    refine List.Perm.append_left _ ?_
    have h1 : all = all.take k ++ (p :: all.drop (k + 1)) := by rw [← hpk, ← List.drop_eq_getElem_cons hkl, List.take_append_drop]
    show (p :: (all.take k ++ all.drop (k + 1))).Perm all
    conv => rhs; rw [h1]
    exact List.perm_middle.symm
   have hokd : ∀ d ∈ (out ++ [(⟨p.1, p.2, l⟩ : GDisp)]), okD d := by
    intro d hd
    rcases List.mem_append.1 hd with h | h
    ·
     exact hok d h
    obtain rfl := List.mem_singleton.1 h
    exact ⟨hl1, hl3, hlg⟩
   refine ⟨_, wk_on H [2, 7, 8, 14, 15, 16] [1044] (by intro y B h; right; have h9 := hbH y B h; simp only [up_apply]; (repeat rw [if_neg (by omega)]); exact h), list.length - (j + 1), by omega, j + 1, (out ++ [(⟨p.1, p.2, l⟩ : GDisp)]), al2, ?ss18, ?na18, by omega, rfl, by simp; omega, by omega, hperm2, hokd, ?st18⟩
   case st18 => (simp only [(id F87), seval, flat_snoc, cDisp, List.length_append, List.length_cons, List.length_nil]; first | rfl | (simp; done))
  repeat refine ob ?_
  refine ⟨_, opts_I2 x hx _ _ (fun y B hB => ?_), ?_⟩
  ·
   simp only [up_apply] at hB
   repeat (split at hB; · omega)
   have := hbH y B hB; omega
  rintro res H' nx' ⟨l, so1, hl1, hl3, hlg, rfl, rfl⟩
  simp only [(id F87), seval, (id SD), hatl, cLeg, cN4]
  repeat refine ob ?_
  refine awp_pubc 2066 1044 (out.length * 3 + 2) (by rfl) (by rfl) (by (try simp only [(id F87), seval]); rw [List.getElem?_append_right (by rw [flat_length cDisp_len]; omega), flat_length cDisp_len, Nat.add_sub_cancel_left]; rfl) (by decide) (by show (4 : Nat) ≠ 0; decide) (by show (3 : Nat) ≠ 0; decide) rfl ?_
  have hst9 : ∀ q9 : List C, q9.length = 3 → ∀ y, (flat cDisp out ++ q9).set (out.length * 3 + 2) y = flat cDisp out ++ q9.set 2 y := fun q9 h9 y => by rw [List.set_append_right _ _ (by rw [flat_length cDisp_len]; omega), flat_length cDisp_len, Nat.add_sub_cancel_left]
  simp only [(id F87), seval]
  rw [hst9 _ (by rfl)]
  simp only [(id F87), seval, List.set_cons_succ, List.set_cons_zero]
  have hk1 : ((k : Int) + 1).toNat = k + 1 := by omega
  have hft := flat_take cLeg_len all k
  have hfd := flat_drop cLeg_len all (k + 1)
  have hfk : List.take ((all.length - (k + 1)) * 2) (flat cLeg (all.drop (k + 1))) = flat cLeg (all.drop (k + 1)) := List.take_of_length_le (by rw [flat_length cLeg_len, List.length_drop]; omega)
  refine awD (scq [1, 3, 5] (scT 4 4 (scq [6, 16, 19] .nil))) [none, none, none, none, none, none, none, none, none, none] ?_
  simp only [(id F87), seval, cGrp, hlt0, hat0, h1, h2, hk1, hft, hfd, hfk, Nat.sub_zero]
  repeat refine ob ?_
  refine awp_pub (t := 8) (by rfl) (by rfl) (by decide) (by rfl) ?_
  simp only [(id F87), seval]
  have hl8 : k + (all.length - (k + 1)) = (all.take k ++ all.drop (k + 1)).length := by simp; omega
  rw [show flat cLeg (all.take k) ++ flat cLeg (all.drop (k + 1)) = flat cLeg (all.take k ++ all.drop (k + 1)) by rw [flat_append]]
  rw [hl8]
  obtain ⟨al2, hal2⟩ : ∃ a, a = all.take k ++ all.drop (k + 1) := ⟨_, rfl⟩
  rw [← hal2]
  refine awN ?_
  simp only [(id F87), seval, cGrp, hlt0, hat0, h1, h2]
  repeat refine ob ?_
  repeat refine ob ?_
  have hperm2 : ((out ++ [(⟨p.1, p.2, l⟩ : GDisp)]).map dLeg ++ al2).Perm (spE g.ests 0 []) := by
   rw [hal2]
   refine List.Perm.trans ?_ hperm
   rw [List.map_append, List.append_assoc]
   refine List.Perm.append_left _ ?_
   have h1 : all = all.take k ++ (p :: all.drop (k + 1)) := by rw [← hpk, ← List.drop_eq_getElem_cons hkl, List.take_append_drop]
   show (p :: (all.take k ++ all.drop (k + 1))).Perm all
   conv => rhs; rw [h1]
   exact List.perm_middle.symm
  have hokd : ∀ d ∈ (out ++ [(⟨p.1, p.2, l⟩ : GDisp)]), okD d := by
   intro d hd
   rcases List.mem_append.1 hd with h | h
   ·
    exact hok d h
   obtain rfl := List.mem_singleton.1 h
   exact ⟨hl1, hl3, hlg⟩
  refine ⟨_, wk_on H [2, 7, 8, 14, 15, 16] [1044] (by intro y B h; right; have h9 := hbH y B h; simp only [up_apply]; (repeat rw [if_neg (by omega)]); exact h), list.length - (j + 1), by omega, j + 1, (out ++ [(⟨p.1, p.2, l⟩ : GDisp)]), al2, ?ss21, ?na21, by omega, rfl, by simp; omega, by omega, hperm2, hokd, ?st21⟩
  case st21 => (simp only [(id F87), seval, flat_snoc, cDisp, List.length_append, List.length_cons, List.length_nil]; first | rfl | (simp; done))
 refine awN ?_
 simp only [(id F87), seval, cGrp, hlt0]
 repeat refine ob ?_
 refine awF ?_
 refine awQ ?_
 simp only [(id F87), seval]
 refine awN ?_
 simp only [(id F87), seval, cGrp, hlt0]
 repeat refine ob ?_
 refine awp_on H [6] [1044] (by intro y B h; right; have h9 := hbH y B h; simp only [up_apply]; (repeat rw [if_neg (by omega)]); exact h) ?_
 simp only [(id F87), seval]
 refine awX ?_
 simp only [(id F87), seval]
 have hpl := hperm.length_eq
 rw [List.length_append, List.length_map] at hpl
 exact ⟨out, all, s, by omega, hperm, hok, rfl, rfl⟩
end Go.Proofs.YtokmkopihhnggaaGreatDoor
namespace Go.Proofs.YtokmkopihhnggaaGreatDoor
open Go Go.RowKit Go.ChangeShapes Go.WideShapes Go.ChangeAt
theorem opensC_ints : Opens Tryz.prog 58 (rC (cSl 1 cI) (okSl i64ok)) := opens_sl Tryz.underlying58 Tryz.cellsIntC (by decide) cI_len opensC_int
theorem open_bool_arg {P : Program} {t : TypeId} {α : Type} {R : CRep α} {H : Type} {enc : TypeId × Value → H} {W : World} {v : Value} {d : DataW H} {p : List MemPlace} {base : Nat} {rc : Reach}
  (ht : P.underlying t = some .bool) (hok : Value.okWide P W rc base t v) (ho : Opens P t R) (h : DataW.Trod enc P W 0 (fun _ => true) true t v d p) : ∃ l, R W (LT W.heap.size) [v] l := by
 obtain ⟨n, rfl⟩ := okWide_bool ht hok
 obtain ⟨fuel, h⟩ := h
 exact ho H enc W fuel _ _ h
def F88 := And.intro zS (And.intro tf7 (And.intro tf113 (tf129)))
set_option maxRecDepth 100000 in
set_option maxHeartbeats 4000000 in
theorem lDA_A (n : Nat) (cash : List Nat) (list ds : List N4) (pools debts : List N3) (bits : Nat) (raw : List Int) (real : Bool) (hn : n < 256) (hcs : okSl (· < 65536) cash) (hls : okSl okN4 list) (hds : okSl okN4 ds) (hps : okSl okN3 pools) (hdb : okSl okN3 debts) (hbits : bits < 65536) (hrw : okSl i64ok raw) : ACall Tryz.prog 4 [.one (.lit (.int .u8 n)), .one (.sh 1 cash.length (flat cU16 cash)), .one (.sh 4 list.length (flat cN4 list)), .one (.sh 4 ds.length (flat cN4 ds)), .one (.sh 3 pools.length (flat cN3 pools)), .one (.sh 3 debts.length (flat cN3 debts)), .one (.lit (.int .u16 bits)), .one (.sh 1 raw.length (flat cI raw)), .one (.lit (.bool real))] (one (.bool true)) := by
 have hc1 : cash.length ≤ 9223372036854775807 := Nat.le_trans hcs.1 (by decide)
 have hl1 : list.length ≤ 9223372036854775807 := Nat.le_trans hls.1 (by decide)
 have hd1 : ds.length ≤ 9223372036854775807 := Nat.le_trans hds.1 (by decide)
 have hp1 : pools.length ≤ 9223372036854775807 := Nat.le_trans hps.1 (by decide)
 have hb1 : debts.length ≤ 9223372036854775807 := Nat.le_trans hdb.1 (by decide)
 refine acall_of Tryz.func4 rfl (by decide) (N := 69) rfl (by simp) (R := [.tmp 18]) rfl fun en k0 => ?_
 refine awN ?_
 simp only [(id F88), seval, cGrp]
 repeat refine ob ?_
 by_cases h8 : (8 : Int) < (raw.length : Int)
 ·
  refine awN ?_
  simp only [(id F88), seval, cGrp, h8]
  repeat refine ob ?_
  refine awT ?_
  refine awN ?_
  simp only [(id F88), seval, cGrp, h8]
  repeat refine ob ?_
  refine ⟨_, awake22_A, (by first | rfl | simp [allA, pure1, pureCs, pureC, A1.cells, cGrp, flat_pure cEst_pure, flat_pure cDebt_pure, flat_pure cDisp_pure, flat_pure cI_pure]), ?_⟩
  try unfold Later
  try simp only [(id F88), seval, cGrp, h8]
  repeat refine ob ?_
  refine awX ?_
  (first | (simp only [(id F88), seval, cGrp, h8]; done) | (simp only [(id F88), seval, cGrp]; first | (simp [h8]; done)))
 refine awN ?_
 simp only [(id F88), seval, cGrp, h8]
 repeat refine ob ?_
 refine awF ?_
 refine awK ?_
 simp only [(id F88), seval]
 have hGR := group_A n cash list pools debts hn hcs.2 hls.2 hps.2 hdb.2 hc1 hl1 hp1 hb1
 have hxg := grpN_x n cash list pools debts
 have hok2 := (grpN_ok n cash list pools debts).1
 refine awN ?_
 simp only [(id F88), seval, cGrp, h8, flat_pure cU16_pure, flat_pure cN4_pure, flat_pure cN3_pure]
 repeat refine ob ?_
 refine ⟨_, hGR, (by first | rfl | simp [allA, pure1, pureCs, pureC, A1.cells, cGrp, flat_pure cEst_pure, flat_pure cDebt_pure, flat_pure cDisp_pure, flat_pure cI_pure]), ?_⟩
 try unfold Later
 try simp only [(id F88), seval, cGrp, h8, flat_pure cU16_pure, flat_pure cN4_pure, flat_pure cN3_pure]
 repeat refine ob ?_
 generalize grpN n cash list pools debts = g at *
 have hgn : g.ests.length ≤ 1000000 := by have := hxg.1; omega
 have hgc : ∀ e ∈ g.ests, e.claims.length ≤ 1000000 := fun e he => by have := (hxg.2.1 e he).1.1; omega
 have hsg := xG_sg hxg
 refine awR [38] [none, none, none, none] ?_
 simp only [(id F88), seval, cGrp, h8, flat_pure cEst_pure, flat_pure cDebt_pure, flat_pure cDisp_pure, flat_pure cI_pure]
 repeat refine ob ?_
 refine ⟨_, disputesP_I g ds 5 _ _ hgn hgc hd1 hds.2 (by decide) (fun y B hB => ?_), ?_⟩
 ·
  simp only [up_apply] at hB
  repeat (split at hB; · omega)
  cases hB
 rintro res H' nxW ⟨l0, all, s, hln, hperm, hokd, rfl, rfl⟩
 simp only [(id F88), seval]
 repeat refine ob ?_
 refine awp_pub (t := 20) (by rfl) (by rfl) (by decide) (by rfl) ?_
 simp only [(id F88), seval]
 have hcq := cqD_of (l := l0) (by omega) hokd
 refine awN ?_
 simp only [(id F88), seval, cGrp, h8]
 repeat refine ob ?_
 by_cases hr : real = true
 ·
  subst hr
  refine awN ?_
  simp only [(id F88), seval, cGrp, h8]
  repeat refine ob ?_
  refine awT ?_
  have hCh := choose_A l0 bits hbits ⟨by omega, fun d hd => by have := (hokd d hd).2.1; omega⟩
  rw [cN_cI] at hCh
  obtain ⟨c0, hc0⟩ : ∃ c : List Int, c = (chL bits l0 0).map fun n : Nat => (n : Int) := ⟨_, rfl⟩
  have hc0l : (chL bits l0 0).length = c0.length := by rw [hc0, List.length_map]
  rw [hc0l, ← hc0] at hCh
  refine awN ?_
  simp only [(id F88), seval, cGrp, h8, flat_pure cEst_pure, flat_pure cDebt_pure, flat_pure cDisp_pure, flat_pure cI_pure]
  repeat refine ob ?_
  refine ⟨_, hCh, (by first | rfl | simp [allA, pure1, pureCs, pureC, A1.cells, cGrp, flat_pure cEst_pure, flat_pure cDebt_pure, flat_pure cDisp_pure, flat_pure cI_pure]), ?_⟩
  try unfold Later
  try simp only [(id F88), seval, cGrp, h8, flat_pure cEst_pure, flat_pure cDebt_pure, flat_pure cDisp_pure, flat_pure cI_pure]
  repeat refine ob ?_
  have hA := dApply_A g l0 c0 (xG_cq hxg) (xG_ok hxg) hcq
  have hB := rApply_A g l0 c0 (xG_cq hxg) hok2 hcq
  rw [← gc_cg, ← dc_rc] at hB
  have hR := apS_sg hsg (dcS (gcSpec g) g l0) l0 c0
  generalize apS (dcS (gcSpec g) g l0) g l0 c0 = R at *
  obtain ⟨g2, e2⟩ := R
  dsimp only at hA hB hR
  have hS := SameGroup_yes g2 hR
  refine awN ?_
  simp only [(id F88), seval, cGrp, h8, flat_pure cEst_pure, flat_pure cDebt_pure, flat_pure cDisp_pure, flat_pure cI_pure]
  repeat refine ob ?_
  refine ⟨_, hA, (by first | rfl | simp [allA, pure1, pureCs, pureC, A1.cells, cGrp, flat_pure cEst_pure, flat_pure cDebt_pure, flat_pure cDisp_pure, flat_pure cI_pure]), ?_⟩
  try unfold Later
  try simp only [(id F88), seval, cGrp, h8, flat_pure cEst_pure, flat_pure cDebt_pure, flat_pure cDisp_pure, flat_pure cI_pure]
  repeat refine ob ?_
  refine awN ?_
  simp only [(id F88), seval, cGrp, h8, flat_pure cEst_pure, flat_pure cDebt_pure, flat_pure cDisp_pure, flat_pure cI_pure]
  repeat refine ob ?_
  refine ⟨_, hB, (by first | rfl | simp [allA, pure1, pureCs, pureC, A1.cells, cGrp, flat_pure cEst_pure, flat_pure cDebt_pure, flat_pure cDisp_pure, flat_pure cI_pure]), ?_⟩
  try unfold Later
  try simp only [(id F88), seval, cGrp, h8, flat_pure cEst_pure, flat_pure cDebt_pure, flat_pure cDisp_pure, flat_pure cI_pure]
  repeat refine ob ?_
  refine awR [] [none, none, some (59, true), some (59, true), some (59, true), none, none, some (64, true), some (64, true), some (64, true), none, none] ?_
  simp only [(id F88), seval, cGrp, h8, flat_pure cEst_pure, flat_pure cDebt_pure, flat_pure cDisp_pure, flat_pure cI_pure, decide_true, BEq.rfl]
  repeat refine ob ?_
  refine ⟨_, awake22_A, (by first | rfl | simp [allA, pure1, pureCs, pureC, A1.cells, cGrp, flat_pure cEst_pure, flat_pure cDebt_pure, flat_pure cDisp_pure, flat_pure cI_pure]), ?_⟩
  try unfold Later
  try simp only [(id F88), seval, cGrp, h8, flat_pure cEst_pure, flat_pure cDebt_pure, flat_pure cDisp_pure, flat_pure cI_pure, decide_true, BEq.rfl]
  repeat refine ob ?_
  refine ⟨_, hS, (by first | rfl | simp [allA, pure1, pureCs, pureC, A1.cells, cGrp, flat_pure cEst_pure, flat_pure cDebt_pure, flat_pure cDisp_pure, flat_pure cI_pure]), ?_⟩
  try unfold Later
  try simp only [(id F88), seval, cGrp, h8, flat_pure cEst_pure, flat_pure cDebt_pure, flat_pure cDisp_pure, flat_pure cI_pure, decide_true, BEq.rfl]
  repeat refine ob ?_
  refine awX ?_
  (first | (simp only [(id F88), seval, cGrp, h8]; done) | (simp only [(id F88), seval, cGrp]; first | (simp [h8]; done)))
 obtain rfl : real = false := by simpa using hr
 refine awN ?_
 simp only [(id F88), seval, cGrp, h8]
 repeat refine ob ?_
 refine awF ?_
 refine awK ?_
 simp only [(id F88), seval]
 have hA := dApply_A g l0 raw (xG_cq hxg) (xG_ok hxg) hcq
 have hB := rApply_A g l0 raw (xG_cq hxg) hok2 hcq
 rw [← gc_cg, ← dc_rc] at hB
 have hR := apS_sg hsg (dcS (gcSpec g) g l0) l0 raw
 generalize apS (dcS (gcSpec g) g l0) g l0 raw = R at *
 obtain ⟨g2, e2⟩ := R
 dsimp only at hA hB hR
 have hS := SameGroup_yes g2 hR
 refine awN ?_
 simp only [(id F88), seval, cGrp, h8, flat_pure cEst_pure, flat_pure cDebt_pure, flat_pure cDisp_pure, flat_pure cI_pure]
 repeat refine ob ?_
 refine ⟨_, hA, (by first | rfl | simp [allA, pure1, pureCs, pureC, A1.cells, cGrp, flat_pure cEst_pure, flat_pure cDebt_pure, flat_pure cDisp_pure, flat_pure cI_pure]), ?_⟩
 try unfold Later
 try simp only [(id F88), seval, cGrp, h8, flat_pure cEst_pure, flat_pure cDebt_pure, flat_pure cDisp_pure, flat_pure cI_pure]
 repeat refine ob ?_
 refine awN ?_
 simp only [(id F88), seval, cGrp, h8, flat_pure cEst_pure, flat_pure cDebt_pure, flat_pure cDisp_pure, flat_pure cI_pure]
 repeat refine ob ?_
 refine ⟨_, hB, (by first | rfl | simp [allA, pure1, pureCs, pureC, A1.cells, cGrp, flat_pure cEst_pure, flat_pure cDebt_pure, flat_pure cDisp_pure, flat_pure cI_pure]), ?_⟩
 try unfold Later
 try simp only [(id F88), seval, cGrp, h8, flat_pure cEst_pure, flat_pure cDebt_pure, flat_pure cDisp_pure, flat_pure cI_pure]
 repeat refine ob ?_
 refine awR [] [none, none, some (59, true), some (59, true), some (59, true), none, none, some (64, true), some (64, true), some (64, true), none, none] ?_
 simp only [(id F88), seval, cGrp, h8, flat_pure cEst_pure, flat_pure cDebt_pure, flat_pure cDisp_pure, flat_pure cI_pure, decide_true, BEq.rfl]
 repeat refine ob ?_
 refine ⟨_, awake22_A, (by first | rfl | simp [allA, pure1, pureCs, pureC, A1.cells, cGrp, flat_pure cEst_pure, flat_pure cDebt_pure, flat_pure cDisp_pure, flat_pure cI_pure]), ?_⟩
 try unfold Later
 try simp only [(id F88), seval, cGrp, h8, flat_pure cEst_pure, flat_pure cDebt_pure, flat_pure cDisp_pure, flat_pure cI_pure, decide_true, BEq.rfl]
 repeat refine ob ?_
 refine ⟨_, hS, (by first | rfl | simp [allA, pure1, pureCs, pureC, A1.cells, cGrp, flat_pure cEst_pure, flat_pure cDebt_pure, flat_pure cDisp_pure, flat_pure cI_pure]), ?_⟩
 try unfold Later
 try simp only [(id F88), seval, cGrp, h8, flat_pure cEst_pure, flat_pure cDebt_pure, flat_pure cDisp_pure, flat_pure cI_pure, decide_true, BEq.rfl]
 repeat refine ob ?_
 refine awX ?_
 (first | (simp only [(id F88), seval, cGrp, h8]; done) | (simp only [(id F88), seval, cGrp]; first | (simp [h8]; done)))
theorem lDA_walk (v0 v1 v2 v3 v4 v5 v6 v7 v8 : Value) (n : Nat) (cash : List Nat) (list ds : List N4) (pools debts : List N3) (bits : Nat) (raw : List Int) (real : Bool) (W : World) (o0 : rC (fun n : Nat => [.lit (.int .u8 n)]) (· < 256) W (LT W.heap.size) [v0] n) (o1 : rC (cSl 1 cU16) (okSl (· < 65536)) W (LT W.heap.size) [v1] cash) (o2 : rC (cSl 4 cN4) (okSl okN4) W (LT W.heap.size) [v2] list) (o3 : rC (cSl 4 cN4) (okSl okN4) W (LT W.heap.size) [v3] ds) (o4 : rC (cSl 3 cN3) (okSl okN3) W (LT W.heap.size) [v4] pools) (o5 : rC (cSl 3 cN3) (okSl okN3) W (LT W.heap.size) [v5] debts) (o6 : rC cU16 (· < 65536) W (LT W.heap.size) [v6] bits) (o7 : rC (cSl 1 cI) (okSl i64ok) W (LT W.heap.size) [v7] raw) (o8 : rC cBo (fun _ => True) W (LT W.heap.size) [v8] real) :
  Calls Tryz.prog 4 #[v0, v1, v2, v3, v4, v5, v6, v7, v8] W fun e w' => e = .returned (.bool true) ∧ Below W.heap.size W w' := by
 obtain ⟨h0, k0⟩ := den_oneC o0 rfl
 obtain ⟨h1, k1⟩ := den_oneC o1 rfl
 obtain ⟨h2, k2⟩ := den_oneC o2 rfl
 obtain ⟨h3, k3⟩ := den_oneC o3 rfl
 obtain ⟨h4, k4⟩ := den_oneC o4 rfl
 obtain ⟨h5, k5⟩ := den_oneC o5 rfl
 obtain ⟨h6, k6⟩ := den_oneC o6 rfl
 obtain ⟨h7, k7⟩ := den_oneC o7 rfl
 obtain ⟨h8, k8⟩ := den_oneC o8 rfl
 exact acall_law (vs := [v0, v1, v2, v3, v4, v5, v6, v7, v8]) (lDA_A n cash list ds pools debts bits raw real k0 k1 k2 k3 k4 k5 k6 k7) ⟨h0, h1, h2, h3, h4, h5, h6, h7, h8, trivial⟩
end Go.Proofs.YtokmkopihhnggaaGreatDoor
