/- guarantee.holder, guarantee.checkDebt walked by the abstract machine. -/
import Derived.Test.YtokmkopihhnggaaGreatDoorAbGM
set_option linter.unusedVariables false
set_option linter.unusedSimpArgs false
set_option linter.defProp false
namespace Go.Proofs.YtokmkopihhnggaaGreatDoor
open Go Go.RowKit
instance : Inhabited GClaim := ⟨⟨0, 0, ⟨false, bEmpty, bEmpty⟩⟩⟩
def claimAt (es : List GEst) (l : Leg) : GClaim := (es.getD l.1.toNat ztEst).claims.getD l.2.toNat default
def inEsts (es : List GEst) (l : Leg) : Bool := decide (0 ≤ l.1) && decide (l.1 < es.length) && decide (0 ≤ l.2) && decide (l.2 < (es.getD l.1.toNat ztEst).claims.length)
theorem flat_get {α : Type} {f : α → List C} {sz : Nat} (hf : ∀ a, (f a).length = sz) (l : List α) (i : Int) (d : α) (h0 : 0 ≤ i) (h : i < l.length) : (flat f l).drop (i.toNat * sz) = f (l.getD i.toNat d) ++ flat f (l.drop (i.toNat + 1)) := by
 have hk : i.toNat < l.length := by omega
 rw [flat_at hf l i.toNat hk]
 congr 2
 simp [List.getD, hk]
def F47 := And.intro zS (And.intro tf21 (And.intro tf109 (And.intro tf24 (And.intro tf110 (And.intro tf25 (And.intro tf29 (And.intro tf111 (And.intro tf96 (And.intro tf97 (And.intro tf32 (And.intro tf112 (tf12))))))))))))
theorem holder_A (g : GGrp) (l : Leg) (h : inEsts g.ests l = true) :
  ACall Tryz.prog 105 [.agg (cGrp g), .agg (cLeg l)] (one (.int .i64 (claimAt g.ests l).holder)) := by
 simp only [inEsts, Bool.and_eq_true, decide_eq_true_eq] at h
 obtain ⟨⟨⟨h1, h2⟩, h3⟩, h4⟩ := h
 have a1 := flat_get cEst_len g.ests l.1 ztEst h1 h2
 have a2 := flat_get cClaim_len (g.ests.getD l.1.toNat ztEst).claims l.2 default h3 h4
 unfold claimAt
 generalize g.ests.getD l.1.toNat ztEst = e at *
 generalize e.claims.getD l.2.toNat default = c at *
 refine acall_of Tryz.func105 rfl (by decide) (N := 17) rfl (by simp) (R := [.tmp 4]) rfl fun en k0 => ?_
 refine awN ?_
 simp only [(id F47), seval, cGrp, cLeg]
 refine awD (scT 0 13 .nil) [none, none, none, none, none, none, none, none, none, none, none, none, none] ?_
 simp only [(id F47), seval, a1, a2, cEst, cClaim]
 refine ⟨⟨h1, h2⟩, ⟨h3, h4⟩, ?_⟩
 refine awX ?_
 simp only [(id F47), seval]
noncomputable def cdLoop (es : List GEst) (h0 : Int) : List Leg → List Leg → Int × List Leg
 | [], T => (0, T)
 | l :: ls, T => if inEsts es l = false then (1, T) else if l ∈ T then (20, T) else if (claimAt es l).holder ≠ h0 then (19, T) else cdLoop es h0 ls (T ++ [l])
noncomputable def cdSpec (g : GGrp) (d : GDebt) (T : List Leg) : Int × List Leg :=
 if 8 < d.legs.length then (2, T) else if qSgn (qOf d.whole) < 0 then (7, T) else cdLoop g.ests (claimAt g.ests (d.legs.getD 0 (0, 0))).holder d.legs T
def mapB (s : Nat) (T : List Leg) : Blk := ⟨s, 103, 0, 0, setC T⟩
def F48 := And.intro zS (And.intro tf109 (And.intro tf91 (And.intro tf24 (And.intro tf110 (And.intro tf93 (And.intro tf131 (And.intro tf94 (And.intro tf29 (And.intro tf111 (And.intro tf96 (And.intro tf97 (And.intro tf32 (And.intro tf112 (And.intro tf99 (And.intro tf113 (And.intro tf101 (And.intro tf18 (And.intro tf12 (And.intro tf132 (tf103))))))))))))))))))))
theorem on66 {H : Hp} {f : Hp} (hb : ∀ x B, H x = some B → x < 1000) (hf : ∀ x, x < 1000 → x ≠ 66 → f x = H x) (l : List Nat) : ∀ x B, H x = some B → hasN (66 :: l) x = true ∨ f x = some B := fun x B hB => by
 by_cases hx : x = 66
 ·left; subst hx; rfl
 right; rw [hf x (hb x B hB) hx]; exact hB
set_option maxHeartbeats 1000000 in
theorem checkDebt_I (g : GGrp) (d : GDebt) (T : List Leg) (H : Hp) (nx0 s : Nat) (hb : ∀ x B, H x = some B → x < 1000) (hH : H 66 = some (mapB s T)) (h1 : d.whole.num.size ≤ 500000000000) (h2 : d.whole.den.size ≤ 500000000000) :
  ACallI Tryz.prog 53 [.agg (cGrp g), .agg (cDebt d), .one (.own 66 s 0 0)] H nx0
   (fun res H' _ => res = one (.int .i64 (cdSpec g d T).1) ∧ H' 66 = some (mapB s (cdSpec g d T).2) ∧ ∀ x, x < 1000 → x ≠ 66 → H' x = H x) := by
 have hS := aSign d.whole h1 h2
 unfold cdSpec
 refine acallI_of 1000 Tryz.func53 rfl (by decide) (N := 74) rfl (by simp) (Rl := [.tmp 6]) rfl fun en k0 => ?_
 by_cases hlen : 8 < d.legs.length
 ·
  have hI : (8 : Int) < (d.legs.length : Int) := by omega
  refine awN ?_
  simp only [(id F48), seval, cGrp, cDebt]
  refine awN ?_
  simp only [(id F48), seval, hI]
  refine awT ?_
  refine awN ?_
  simp only [(id F48), seval]
  refine awX ?_
  simp only [(id F48), seval, hlen, hH]
  exact (fun x h1 h2 => by (try simp only [up_apply]); repeat rw [if_neg (by omega)])
 have hI : ¬ (8 : Int) < (d.legs.length : Int) := by omega
 by_cases hq : qSgn (qOf d.whole) < 0
 ·
  repeat' first|apply awS|apply awB
  refine awN ?_
  simp only [(id F48), seval, cGrp, cDebt]
  refine awN ?_
  simp only [(id F48), seval, hI]
  refine awF ?_
  refine awN ?_
  simp only [(id F48), seval]
  refine ⟨_, hS, rfl, ?_⟩
  simp only [Later, (id F48), seval, hq]
  refine awT ?_
  refine awN ?_
  simp only [(id F48), seval]
  refine awX ?_
  simp only [(id F48), seval, hlen, hH]
  exact (fun x h1 h2 => by (try simp only [up_apply]); repeat rw [if_neg (by omega)])
 repeat' first|apply awS|apply awB
 refine awN ?_
 simp only [(id F48), seval, cGrp, cDebt]
 refine awN ?_
 simp only [(id F48), seval, hI]
 refine awF ?_
 refine awN ?_
 simp only [(id F48), seval]
 refine ⟨_, hS, rfl, ?_⟩
 simp only [Later, (id F48), seval, hq]
 refine awF ?_
 refine awK ?_
 simp only [(id F48), seval]
 refine awN ?_
 simp only [(id F48), seval]
 simp only [hlen, if_false]
 refine awp_on H [2, 3, 4, 20, 21, 22] [66, 1003, 1004] (on66 hb (fun x h1 h2 => by (try simp only [up_apply]); repeat rw [if_neg (by omega)]) _) ?_
 simp only [Later, (id F48), seval, hH]
 generalize hh0 : (claimAt g.ests (d.legs.getD 0 (0, 0))).holder = hd0
 repeat' first|apply awS|apply awB
 refine awp_loopw (fun n st => ∃ k nx T1, k ≤ d.legs.length ∧ n = d.legs.length - k ∧ cdLoop g.ests hd0 (d.legs.drop k) T1 = cdLoop g.ests hd0 d.legs T ∧ (0 < k → inEsts g.ests (d.legs.getD 0 (0, 0)) = true) ∧ st = ⟨mkT [(2, .val (.one (.own 66 s 0 0))), (3, .val (.one (.ptr 1003 nx0 0))), (4, .val (.one (.ptr 1004 (nx0 + 1) 0))), (20, .val (.one (.sh 2 d.legs.length (flat cLeg d.legs)))), (21, one (.int .i64 d.legs.length)), (22, one (.int .i64 k))], mkOn H [(66, mapB s T1), (1003, ⟨nx0, 28, 2, 1, cGrp g⟩), (1004, ⟨nx0 + 1, 42, 4, 1, cDebt d⟩)], nx, 1000⟩) d.legs.length ⟨0, _, T, by omega, by omega, rfl, by omega, rfl⟩ ?_
 rintro n st ⟨k, nx, T1, hk, rfl, hL, h0, rfl⟩
 by_cases hlt : k < d.legs.length
 ·
  have hI : (k : Int) < (d.legs.length : Int) := by omega
  have hI0 : (0 : Int) < (d.legs.length : Int) := by omega
  have hat := flat_at cLeg_len d.legs k hlt
  have hdr : d.legs.drop k = d.legs[k] :: d.legs.drop (k + 1) := List.drop_eq_getElem_cons hlt
  have ht0 : List.take 2 (flat cLeg d.legs) = cLeg (d.legs.getD 0 (0, 0)) := by
   have h5 : 0 < d.legs.length := by omega
   have := flat_at cLeg_len d.legs 0 h5
   simp only [Nat.zero_mul, List.drop_zero] at this
   rw [this, List.take_left' (cLeg_len _)]
   simp [List.getD, h5]
  have hlen0 : 2 ≤ (flat cLeg d.legs).length := by rw [flat_length cLeg_len]; omega
  have hk0 : k = 0 → d.legs[k] = d.legs.getD 0 (0, 0) := fun h => by subst h; simp [List.getD, hlt]
  rw [hdr] at hL
  generalize d.legs[k] = l at *
  simp only [cdLoop] at hL
  have RES : ∀ (c : Int), (if inEsts g.ests l = false then ((1 : Int), T1) else if l ∈ T1 then (20, T1) else if (claimAt g.ests l).holder ≠ hd0 then (19, T1) else cdLoop g.ests hd0 (List.drop (k + 1) d.legs) (T1 ++ [l])) = (c, T1) → cdLoop g.ests hd0 d.legs T = (c, T1) := fun c h => hL.symm.trans h
  by_cases hin : inEsts g.ests l = true
  ·
   have hin' := hin
   simp only [inEsts, Bool.and_eq_true, decide_eq_true_eq] at hin'
   obtain ⟨⟨⟨e1, e2⟩, e3⟩, e4⟩ := hin'
   have a1 := flat_get cEst_len g.ests l.1 ztEst e1 e2
   have hH1 := holder_A g l hin
   have hin0 : inEsts g.ests (d.legs.getD 0 (0, 0)) = true := by
    rcases Nat.eq_zero_or_pos k with h | h
    ·
     rw [← hk0 h]; exact hin
    exact h0 h
   have hH2 := holder_A g (d.legs.getD 0 (0, 0)) hin0
   rw [hh0] at hH2
   generalize d.legs.getD 0 (0, 0) = l0 at *
   have n1 : ¬ l.1 < 0 := by omega
   have n2 : ¬ (g.ests.length : Int) ≤ l.1 := by omega
   have n3 : ¬ l.2 < 0 := by omega
   have n4 : ¬ ((g.ests.getD l.1.toNat ztEst).claims.length : Int) ≤ l.2 := by omega
   refine awN ?_
   simp only [(id F48), seval, hI]
   refine awT ?_
   refine awK ?_
   simp only [(id F48), seval]
   refine awN ?_
   simp only [(id F48), seval, hat, cLeg]
   repeat refine ob ?_
   refine awD (scT 0 30 .nil) [none, none, none, none, some (30, false), some (30, false), some (30, false), some (30, false), some (30, false), some (30, false), none, none, some (38, false), some (38, false), some (38, false), none, none, some (43, false), some (43, false), some (43, false), some (43, false), some (43, false), some (43, false), some (43, false), some (43, false), some (43, false), some (43, false), some (43, false), none, none] ?_
   simp only [(id F48), seval, n1, n2, n3, n4, a1, cEst, cGrp]
   repeat refine ob ?_
   refine awF ?_
   by_cases hm : l ∈ T1
   ·
    repeat' first|apply awS|apply awB
    refine awN ?_
    simp only [(id F48), seval, mget_in l T1 hm, mapB, Option.getD_some, Option.isSome_some]
    refine ⟨MK_leg l T1, ?_⟩
    refine awT ?_
    refine awN ?_
    simp only [(id F48), seval]
    have hR := RES 20 (by simp [hin, hm])
    refine awX ?_
    simp only [(id F48), seval, hR, mapB]
    exact (fun x h1 h2 => by (try simp only [up_apply]); repeat rw [if_neg (by omega)])
   repeat' first|apply awS|apply awB
   refine awN ?_
   simp only [(id F48), seval, mget_out l T1 hm, mapB, Option.getD_none]
   refine ⟨MK_leg l T1, ?_⟩
   refine awF ?_
   by_cases hne : (claimAt g.ests l).holder = hd0
   ·
    repeat' first|apply awS|apply awB
    refine awD (scq [1, 3] (scT 3 5 (scq [4, 16, 19, 21] .nil))) [none, none, none, none, none, none, none, none, none, none, none] ?_
    simp only [(id F48), seval, cDebt, ht0, cLeg, flat_pure cEst_pure, flat_pure cDebt_pure]
    repeat refine ob ?_
    refine ⟨_, hH1, rfl, ?_⟩
    simp only [Later, (id F48), seval, cLeg, flat_pure cEst_pure, flat_pure cDebt_pure]
    repeat refine ob ?_
    refine ⟨_, hH2, rfl, ?_⟩
    simp only [Later, (id F48), seval, hne]
    refine awF ?_
    refine awK ?_
    simp only [(id F48), seval]
    refine awN ?_
    simp only [(id F48), seval, mput_new l T1 hm, mapB]
    refine ⟨MK_leg l T1, ?_⟩
    refine awN ?_
    simp only [(id F48), seval]
    repeat refine ob ?_
    refine ⟨_, wk_on H [2, 3, 4, 20, 21, 22] [66, 1003, 1004] (on66 hb (fun x h1 h2 => by (try simp only [up_apply]); repeat rw [if_neg (by omega)]) _), d.legs.length - (k + 1), by omega, k + 1, nx + 1, T1 ++ [l], by omega, rfl, ?_, fun _ => hin0, ?_⟩
    ·
     rw [← hL]; simp [hin, hm, hne]
    simp only [(id F48), seval, mapB]
    try rfl
   repeat' first|apply awS|apply awB
   refine awD (scq [1, 3] (scT 3 5 (scq [4, 16, 19, 21] .nil))) [none, none, none, none, none, none, none, none, none, none, none] ?_
   simp only [(id F48), seval, cDebt, ht0, cLeg, flat_pure cEst_pure, flat_pure cDebt_pure]
   repeat refine ob ?_
   refine ⟨_, hH1, rfl, ?_⟩
   simp only [Later, (id F48), seval, cLeg, flat_pure cEst_pure, flat_pure cDebt_pure]
   repeat refine ob ?_
   refine ⟨_, hH2, rfl, ?_⟩
   simp only [Later, (id F48), seval, hne]
   refine awT ?_
   refine awN ?_
   simp only [(id F48), seval]
   have hR := RES 19 (by simp [hin, hm, hne])
   refine awX ?_
   simp only [(id F48), seval, hR, mapB]
   exact (fun x h1 h2 => by (try simp only [up_apply]); repeat rw [if_neg (by omega)])
  have hin' : inEsts g.ests l = false := by simpa using hin
  have hR := RES 1 (by simp [hin'])
  by_cases p1 : l.1 < 0
  ·
   refine awN ?_
   simp only [(id F48), seval, hI]
   refine awT ?_
   refine awK ?_
   simp only [(id F48), seval]
   refine awN ?_
   simp only [(id F48), seval, hat, cLeg]
   repeat refine ob ?_
   refine awD (scT 0 30 .nil) [none, none, none, none, some (30, false), some (30, false), some (30, false), some (30, false), some (30, false), some (30, false), none, none, some (38, false), some (38, false), some (38, false), none, none, some (43, false), some (43, false), some (43, false), some (43, false), some (43, false), some (43, false), some (43, false), some (43, false), some (43, false), some (43, false), some (43, false), none, none] ?_
   simp only [(id F48), seval, p1, cGrp]
   repeat refine ob ?_
   refine awT ?_
   refine awN ?_
   simp only [(id F48), seval]
   refine awX ?_
   simp only [(id F48), seval, hR, mapB]
   exact (fun x h1 h2 => by (try simp only [up_apply]); repeat rw [if_neg (by omega)])
  by_cases p2 : (g.ests.length : Int) ≤ l.1
  ·
   refine awN ?_
   simp only [(id F48), seval, hI]
   refine awT ?_
   refine awK ?_
   simp only [(id F48), seval]
   refine awN ?_
   simp only [(id F48), seval, hat, cLeg]
   repeat refine ob ?_
   refine awD (scT 0 30 .nil) [none, none, none, none, some (30, false), some (30, false), some (30, false), some (30, false), some (30, false), some (30, false), none, none, some (38, false), some (38, false), some (38, false), none, none, some (43, false), some (43, false), some (43, false), some (43, false), some (43, false), some (43, false), some (43, false), some (43, false), some (43, false), some (43, false), some (43, false), none, none] ?_
   simp only [(id F48), seval, p1, p2, cGrp]
   repeat refine ob ?_
   refine awT ?_
   refine awN ?_
   simp only [(id F48), seval]
   refine awX ?_
   simp only [(id F48), seval, hR, mapB]
   exact (fun x h1 h2 => by (try simp only [up_apply]); repeat rw [if_neg (by omega)])
  by_cases p3 : l.2 < 0
  ·
   refine awN ?_
   simp only [(id F48), seval, hI]
   refine awT ?_
   refine awK ?_
   simp only [(id F48), seval]
   refine awN ?_
   simp only [(id F48), seval, hat, cLeg]
   repeat refine ob ?_
   refine awD (scT 0 30 .nil) [none, none, none, none, some (30, false), some (30, false), some (30, false), some (30, false), some (30, false), some (30, false), none, none, some (38, false), some (38, false), some (38, false), none, none, some (43, false), some (43, false), some (43, false), some (43, false), some (43, false), some (43, false), some (43, false), some (43, false), some (43, false), some (43, false), some (43, false), none, none] ?_
   simp only [(id F48), seval, p1, p2, p3, cGrp]
   repeat refine ob ?_
   refine awT ?_
   refine awN ?_
   simp only [(id F48), seval]
   refine awX ?_
   simp only [(id F48), seval, hR, mapB]
   exact (fun x h1 h2 => by (try simp only [up_apply]); repeat rw [if_neg (by omega)])
  have a1 := flat_get cEst_len g.ests l.1 ztEst (by omega) (by omega)
  have p4 : ((g.ests.getD l.1.toNat ztEst).claims.length : Int) ≤ l.2 := by
   simp only [inEsts] at hin'
   by_cases q : ((g.ests.getD l.1.toNat ztEst).claims.length : Int) ≤ l.2
   ·
    exact q
   have e1 : 0 ≤ l.1 := by omega
   have e2 : l.1 < (g.ests.length : Int) := by omega
   have e3 : 0 ≤ l.2 := by omega
   have e4 : l.2 < ((g.ests.getD l.1.toNat ztEst).claims.length : Int) := by omega
   rw [decide_eq_true e1, decide_eq_true e2, decide_eq_true e3, decide_eq_true e4] at hin'
   cases hin'
  refine awN ?_
  simp only [(id F48), seval, hI]
  refine awT ?_
  refine awK ?_
  simp only [(id F48), seval]
  refine awN ?_
  simp only [(id F48), seval, hat, cLeg]
  repeat refine ob ?_
  refine awD (scT 0 30 .nil) [none, none, none, none, some (30, false), some (30, false), some (30, false), some (30, false), some (30, false), some (30, false), none, none, some (38, false), some (38, false), some (38, false), none, none, some (43, false), some (43, false), some (43, false), some (43, false), some (43, false), some (43, false), some (43, false), some (43, false), some (43, false), some (43, false), some (43, false), none, none] ?_
  simp only [(id F48), seval, p1, p2, p3, p4, a1, cEst, cGrp]
  repeat refine ob ?_
  refine awT ?_
  refine awN ?_
  simp only [(id F48), seval]
  refine awX ?_
  simp only [(id F48), seval, hR, mapB]
  exact (fun x h1 h2 => by (try simp only [up_apply]); repeat rw [if_neg (by omega)])
 obtain rfl : k = d.legs.length := by omega
 have hI : ¬ (d.legs.length : Int) < (d.legs.length : Int) := by omega
 rw [List.drop_length] at hL
 simp only [cdLoop] at hL
 refine awN ?_
 simp only [(id F48), seval, hI]
 refine awF ?_
 refine awQ ?_
 simp only [(id F48), seval]
 refine awN ?_
 simp only [(id F48), seval]
 refine awX ?_
 simp only [(id F48), seval, ← hL, mapB]
 exact (fun x h1 h2 => by (try simp only [up_apply]); repeat rw [if_neg (by omega)])
end Go.Proofs.YtokmkopihhnggaaGreatDoor
