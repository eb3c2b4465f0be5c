/- Classes: Check on both sides; walked by the abstract machine. -/
import Derived.Test.YtpdmlemknomoeaaGreatDoorCs2M
set_option linter.unusedVariables false
set_option linter.unusedSimpArgs false
set_option linter.defProp false
set_option linter.unnecessarySimpa false
/- Classes: Check on both sides; walked by the abstract machine. -/
namespace Go.Proofs.YtpdmlemknomoeaaGreatDoor
open Go Go.RowKit
theorem on22 {H : Hp} {f : Hp} (hb : ∀ x B, H x = some B → x < 1000) (hf : ∀ x, x < 1000 → x ≠ 22 → f x = H x) (l : List Nat) : ∀ x B, H x = some B → hasN (22 :: l) x = true ∨ f x = some B := fun x B hB => by
  by_cases hx : x = 22
  · left; subst hx; rfl
  right; rw [hf x (hb x B hB) hx]; exact hB
theorem nn_step {b : Bool} {p : Prop} [Decidable p] {x : Bool} (h : b = true → p) : (if b = true then (if p then x else false) else x) = x := by
  cases b with
  | false => simp
  | true => simp [h rfl]
theorem nn_no {b x : Bool} (h : false = (!b || x)) : b = true ∧ x = false := by cases b <;> cases x <;> simp_all
def memB (k : Int) : List Int → Bool
  | [] => false
  | x :: l => if x = k then true else memB k l
theorem memB_eq (k : Int) : ∀ l, memB k l = decide (k ∈ l)
  | [] => by simp [memB]
  | x :: l => by
    simp only [memB, memB_eq k l, List.mem_cons]
    by_cases h : x = k
    · simp [h]
    simp [h, Ne.symm h]
def F_cCk := And.intro zS (And.intro tf14 (And.intro tf15 (And.intro tf41 (And.intro tf16 (And.intro tf17 (And.intro tf7 (And.intro tf43 (And.intro tf71 (And.intro tf72 (And.intro tf61 (And.intro tf19 (And.intro tf20 (And.intro tf23 (And.intro tf24 (And.intro tf62 (And.intro tf49 (And.intro tf31 (And.intro tf12 (And.intro tf33 (And.intro tf74 (tf34)))))))))))))))))))))
set_option maxRecDepth 100000 in
set_option maxHeartbeats 4000000 in
theorem cCheck_I (g : GGrp) (c : GCls) (T : List Leg) (H : Hp) (ny s : Nat) (hb : ∀ x B, H x = some B → x < 1000) (hH : H 22 = some ⟨s, 105, 0, 0, setC T⟩) (hng : g.ests.length ≤ 1000000) (hcn : c.claims.length ≤ 9223372036854775807) (hcl : ∀ e ∈ g.ests, e.claims.length ≤ 1000000 ∧ ∀ c ∈ e.claims, bigOK c.amount) :
  ACallI Tryz.prog 46 [.agg (cGrp g), .agg (cCls c), .one (.own 22 s 0 0)] H ny
   (fun res H' _ => res = one (.int .i64 (ckC g c T).1) ∧ H' 22 = some (mapB s (ckC g c T).2) ∧ ∀ x, x < 1000 → x ≠ 22 → H' x = H x) := by
 refine acallI_of 1000 Tryz.func46 rfl (by decide) (N := 77) rfl (by simp) (Rl := [.tmp 6]) rfl fun en k0 => ?_
 refine awR [] [none, none, none] ?_
 simp only [(id F_cCk), seval, cGrp, cCls]
 repeat refine ob ?_
 by_cases h1 : c.est < 0
 ·
  refine awR [] [none, none, none, none, some (14, false), some (14, false), some (14, false), some (14, false), some (14, false), some (14, false), none] ?_
  simp only [(id F_cCk), seval, cGrp, h1, cCls]
  repeat refine ob ?_
  refine awT ?_
  refine awR [] [none] ?_
  simp only [(id F_cCk), seval, cGrp, h1]
  repeat refine ob ?_
  have hR : ckC g c T = (1, T) := by unfold ckC; simp [h1]
  refine awX ?_
  simp only [(id F_cCk), seval, hR, mapB, hH]
  exact (fun x h1 h2 => by (try simp only [up_apply]); repeat rw [if_neg (by omega)])
 by_cases h2 : (g.ests.length : Int) ≤ c.est
 ·
  refine awR [] [none, none, none, none, some (14, false), some (14, false), some (14, false), some (14, false), some (14, false), some (14, false), none] ?_
  simp only [(id F_cCk), seval, cGrp, h1, h2, cCls]
  repeat refine ob ?_
  refine awT ?_
  refine awR [] [none] ?_
  simp only [(id F_cCk), seval, cGrp, h1, h2]
  repeat refine ob ?_
  have hR : ckC g c T = (1, T) := by unfold ckC; simp [h1, h2]
  refine awX ?_
  simp only [(id F_cCk), seval, hR, mapB, hH]
  exact (fun x h1 h2 => by (try simp only [up_apply]); repeat rw [if_neg (by omega)])
 refine awR [] [none, none, none, none, some (14, false), some (14, false), some (14, false), some (14, false), some (14, false), some (14, false), none] ?_
 simp only [(id F_cCk), seval, cGrp, h1, h2, cCls]
 repeat refine ob ?_
 refine awF ?_
 refine awK ?_
 simp only [(id F_cCk), seval]
 by_cases h0 : (c.claims.length : Int) = 0
 ·
  refine awR [] [none, none, none, none] ?_
  simp only [(id F_cCk), seval, cGrp, h1, h2, h0, cCls]
  repeat refine ob ?_
  refine awT ?_
  refine awR [] [none] ?_
  simp only [(id F_cCk), seval, cGrp, h1, h2, h0]
  repeat refine ob ?_
  have hR : ckC g c T = (21, T) := by unfold ckC; simp [h1, h2, h0]
  refine awX ?_
  simp only [(id F_cCk), seval, hR, mapB, hH]
  exact (fun x h1 h2 => by (try simp only [up_apply]); repeat rw [if_neg (by omega)])
 refine awR [] [none, none, none, none] ?_
 simp only [(id F_cCk), seval, cGrp, h1, h2, h0, cCls]
 repeat refine ob ?_
 refine awF ?_
 refine awK ?_
 simp only [(id F_cCk), seval]
 have hat := flat_get cEst_len g.ests c.est ztEst (by omega) (by omega)
 obtain ⟨e, hge⟩ : ∃ e, g.ests.getD c.est.toNat ztEst = e := ⟨_, rfl⟩
 rw [hge] at hat
 have hem : e ∈ g.ests := by rw [← hge, List.getD_eq_getElem?_getD, List.getElem?_eq_getElem (show c.est.toNat < g.ests.length by omega)]; exact List.getElem_mem _
 have hes := hcl e hem
 have hck : ckC g c T = ckL e.claims c.est c.rank c.claims T := by unfold ckC; rw [if_neg h1, if_neg h2, if_neg h0, hge]
 refine awR [] [none, none, none, none, none, none, none, none] ?_
 simp only [(id F_cCk), seval, cGrp, h1, h2, h0, cCls, hat, cEst]
 repeat refine ob ?_
 refine awR [] [none, none, none, none] ?_
 simp only [(id F_cCk), seval, cGrp, h1, h2, h0, cCls]
 repeat refine ob ?_
 refine awp_on H [2, 4, 7, 34, 35, 36] [22, 1004] (on22 hb (fun x h1 h2 => by (try simp only [up_apply]); repeat rw [if_neg (by omega)]) _) ?_
 try unfold Later
 try simp only [(id F_cCk), seval, cGrp, h1, h2, h0, mapB, hH]
 repeat' first|apply awS|apply awB
 refine awp_loopw (fun n st => ∃ i0 T1 nx, i0 ≤ c.claims.length ∧ n = c.claims.length - i0 ∧ ckL e.claims c.est c.rank (c.claims.drop i0) T1 = ckL e.claims c.est c.rank c.claims T ∧ st = ⟨mkT [(2, .val (.one (.own 22 s 0 0))), (4, .val (.one (.ptr 1004 (ny + 1) 0))), (7, .val (.one (.sh 5 e.claims.length (flat cClaim e.claims)))), (34, .val (.one (.sh 1 c.claims.length (flat cI c.claims)))), (35, one (.int .i64 c.claims.length)), (36, one (.int .i64 i0))], mkOn H [(22, mapB s T1), (1004, ⟨ny + 1, 58, 4, 1, cCls c⟩)], nx, 1000⟩) (c.claims.length) ⟨0, T, _, by omega, by omega, by rfl, rfl⟩ ?_
 rintro n0 st ⟨i0, T1, nx0, hk0, rfl, hL0, rfl⟩
 by_cases hlt0 : i0 < c.claims.length
 ·
  have hI0 : (i0 : Int) < (c.claims.length : Int) := by omega
  have hat0 := flat_at cI_len c.claims i0 hlt0
  try rw [Nat.mul_one] at hat0
  rw [List.drop_eq_getElem_cons hlt0] at hL0
  generalize c.claims[i0] = kk at *
  simp only [ckL] at hL0
  refine awR [] [none] ?_
  simp only [(id F_cCk), seval, cGrp, h1, h2, h0, hI0, hat0]
  repeat refine ob ?_
  refine awT ?_
  refine awK ?_
  simp only [(id F_cCk), seval]
  refine awR [] [none, none, none] ?_
  simp only [(id F_cCk), seval, cGrp, h1, h2, h0, hI0, hat0, cI]
  repeat refine ob ?_
  refine awR [] [none, none, none, none, none, none] ?_
  simp only [(id F_cCk), seval, cGrp, h1, h2, h0, hI0, hat0, cCls]
  repeat refine ob ?_
  by_cases h3 : kk < 0
  ·
   refine awR [] [none, none, none, some (47, false), some (47, false), some (47, false), some (47, false), none, none] ?_
   simp only [(id F_cCk), seval, cGrp, h1, h2, h0, hI0, hat0, h3]
   repeat refine ob ?_
   refine awT ?_
   refine awR [] [none] ?_
   simp only [(id F_cCk), seval, cGrp, h1, h2, h0, hI0, hat0, h3]
   repeat refine ob ?_
   have hR : ckC g c T = (1, T1) := by rw [hck, ← hL0]; simp [h3]
   refine awX ?_
   simp only [(id F_cCk), seval, hR, mapB]
   exact (fun x h1 h2 => by (try simp only [up_apply]); repeat rw [if_neg (by omega)])
  by_cases h4 : (e.claims.length : Int) ≤ kk
  ·
   refine awR [] [none, none, none, some (47, false), some (47, false), some (47, false), some (47, false), none, none] ?_
   simp only [(id F_cCk), seval, cGrp, h1, h2, h0, hI0, hat0, h3, h4]
   repeat refine ob ?_
   refine awT ?_
   refine awR [] [none] ?_
   simp only [(id F_cCk), seval, cGrp, h1, h2, h0, hI0, hat0, h3, h4]
   repeat refine ob ?_
   have hR : ckC g c T = (1, T1) := by rw [hck, ← hL0]; simp [h3, h4]
   refine awX ?_
   simp only [(id F_cCk), seval, hR, mapB]
   exact (fun x h1 h2 => by (try simp only [up_apply]); repeat rw [if_neg (by omega)])
  refine awR [] [none, none, none, some (47, false), some (47, false), some (47, false), some (47, false), none, none] ?_
  simp only [(id F_cCk), seval, cGrp, h1, h2, h0, hI0, hat0, h3, h4]
  repeat refine ob ?_
  have hatc := flat_get cClaim_len e.claims kk default (by omega) (by omega)
  obtain ⟨y, hgy⟩ : ∃ y, e.claims.getD kk.toNat default = y := ⟨_, rfl⟩
  rw [hgy] at hatc hL0
  have hym : y ∈ e.claims := by rw [← hgy, List.getD_eq_getElem?_getD, List.getElem?_eq_getElem (show kk.toNat < e.claims.length by omega)]; exact List.getElem_mem _
  have hE : ∀ rk, ACall Tryz.prog 47 [.agg [.lit (.int .i64 y.holder), .lit (.int .i64 rk), .lit (.bool y.amount.neg), .lit (.string y.amount.num), .lit (.string y.amount.den)]] (one (.bool (elB y))) := fun rk => cElig_A ⟨y.holder, rk, y.amount⟩ (bigOK_rat (r := y.amount) (hes.2 y hym))
  refine awF ?_
  by_cases he : elB y = true
  ·
   by_cases hr : y.rank = c.rank
   ·
    refine awD (scq [1, 3, 5, 7, 8, 11, 13, 15, 17, 19, 21, 23, 25, 27, 29, 31, 33] .nil) [none, none, none, none, none, none, none, some (60, false), some (60, false), some (60, false), some (60, false), some (60, false), some (60, false), some (60, false), some (60, false), none, none] ?_
    simp only [(id F_cCk), seval, cGrp, h1, h2, h0, hI0, hat0, h3, h4, he, hr, hatc, cClaim, cCls]
    repeat refine ob ?_
    refine ⟨_, (hE _), (by first | rfl | simp [allA, pure1, pureCs, pureC, A1.cells, flat_pure cI_pure]), ?_⟩
    try unfold Later
    try simp only [(id F_cCk), seval, cGrp, h1, h2, h0, hI0, hat0, h3, h4, he, hr, hatc, cClaim, cCls]
    repeat refine ob ?_
    refine awF ?_
    by_cases hT : (c.est, kk) ∈ T1
    ·
     have hmg := mget_in (c.est, kk) T1 hT
     refine awR [] [none, none, none, none] ?_
     simp only [(id F_cCk), seval, cGrp, h1, h2, h0, hI0, hat0, h3, h4, he, hr, hT, hmg, mapB, Option.getD_some, Option.getD_none]
     repeat refine ob ?_
     refine ⟨MK_leg (c.est, kk) T1, ?_⟩
     repeat refine ob ?_
     refine awT ?_
     refine awR [] [none] ?_
     simp only [(id F_cCk), seval, cGrp, h1, h2, h0, hI0, hat0, h3, h4, he, hr, hT]
     repeat refine ob ?_
     have hR : ckC g c T = (12, T1) := by rw [hck, ← hL0]; simp [h3, h4, he, hr, hT]
     refine awX ?_
     simp only [(id F_cCk), seval, hR, mapB]
     exact (fun x h1 h2 => by (try simp only [up_apply]); repeat rw [if_neg (by omega)])
    have hmg := mget_out (c.est, kk) T1 hT
    refine awR [] [none, none, none, none] ?_
    simp only [(id F_cCk), seval, cGrp, h1, h2, h0, hI0, hat0, h3, h4, he, hr, hT, hmg, mapB, Option.getD_some, Option.getD_none]
    repeat refine ob ?_
    refine ⟨MK_leg (c.est, kk) T1, ?_⟩
    repeat refine ob ?_
    refine awF ?_
    refine awK ?_
    simp only [(id F_cCk), seval]
    have hmp := mput_new (c.est, kk) T1 hT
    refine awR [] [none, none, none] ?_
    simp only [(id F_cCk), seval, cGrp, h1, h2, h0, hI0, hat0, h3, h4, he, hr, hT, hmp, mapB]
    repeat refine ob ?_
    refine ⟨MK_leg (c.est, kk) T1, ?_⟩
    repeat refine ob ?_
    refine awR [] [none, none] ?_
    simp only [(id F_cCk), seval, cGrp, h1, h2, h0, hI0, hat0, h3, h4, he, hr, hT]
    repeat refine ob ?_
    repeat refine ob ?_
    refine ⟨_, wk_on H [2, 4, 7, 34, 35, 36] [22, 1004] (on22 hb (fun x h1 h2 => by (try simp only [up_apply]); repeat rw [if_neg (by omega)]) _), c.claims.length - (i0 + 1), by omega, i0 + 1, (T1 ++ [(c.est, kk)]), ?a31_nx, by omega, rfl, ?i31_0, ?st31⟩
    case st31 => (simp only [(id F_cCk), seval, mapB, hH, cGrp, h1, h2, h0, hI0, hat0, h3, h4, he, hr, hT]; first | rfl | (simp [mapB, hH, h1, h2, h0, hI0, hat0, h3, h4, he, hr, hT, Nat.add_mul]; done))
    case i31_0 => (first | exact hL0 | (rw [← hL0]; simp only [reduceIte, h1, h2, h0, hI0, hat0, h3, h4, he, hr, hT]; done) | (rw [← hL0]; simp [h1, h2, h0, hI0, hat0, h3, h4, he, hr, hT]; done) | (simp [h1, h2, h0, hI0, hat0, h3, h4, he, hr, hT] at hL0; simpa using hL0) | (rw [← hL0]; simp [*]; done))
   refine awD (scq [1, 3, 5, 7, 8, 11, 13, 15, 17, 19, 21, 23, 25, 27, 29, 31, 33] .nil) [none, none, none, none, none, none, none, some (60, false), some (60, false), some (60, false), some (60, false), some (60, false), some (60, false), some (60, false), some (60, false), none, none] ?_
   simp only [(id F_cCk), seval, cGrp, h1, h2, h0, hI0, hat0, h3, h4, he, hr, hatc, cClaim, cCls]
   repeat refine ob ?_
   refine ⟨_, (hE _), (by first | rfl | simp [allA, pure1, pureCs, pureC, A1.cells, flat_pure cI_pure]), ?_⟩
   try unfold Later
   try simp only [(id F_cCk), seval, cGrp, h1, h2, h0, hI0, hat0, h3, h4, he, hr, hatc, cClaim, cCls]
   repeat refine ob ?_
   refine awT ?_
   refine awR [] [none] ?_
   simp only [(id F_cCk), seval, cGrp, h1, h2, h0, hI0, hat0, h3, h4, he, hr]
   repeat refine ob ?_
   have hR : ckC g c T = (13, T1) := by rw [hck, ← hL0]; simp [h3, h4, he, hr]
   refine awX ?_
   simp only [(id F_cCk), seval, hR, mapB]
   exact (fun x h1 h2 => by (try simp only [up_apply]); repeat rw [if_neg (by omega)])
  refine awD (scq [1, 3, 5, 7, 8, 11, 13, 15, 17, 19, 21, 23, 25, 27, 29, 31, 33] .nil) [none, none, none, none, none, none, none, some (60, false), some (60, false), some (60, false), some (60, false), some (60, false), some (60, false), some (60, false), some (60, false), none, none] ?_
  simp only [(id F_cCk), seval, cGrp, h1, h2, h0, hI0, hat0, h3, h4, he, hatc, cClaim, cCls]
  repeat refine ob ?_
  refine ⟨_, (hE _), (by first | rfl | simp [allA, pure1, pureCs, pureC, A1.cells, flat_pure cI_pure]), ?_⟩
  try unfold Later
  try simp only [(id F_cCk), seval, cGrp, h1, h2, h0, hI0, hat0, h3, h4, he, hatc, cClaim, cCls]
  repeat refine ob ?_
  refine awT ?_
  refine awR [] [none] ?_
  simp only [(id F_cCk), seval, cGrp, h1, h2, h0, hI0, hat0, h3, h4, he]
  repeat refine ob ?_
  have hR : ckC g c T = (13, T1) := by rw [hck, ← hL0]; simp [h3, h4, he]
  refine awX ?_
  simp only [(id F_cCk), seval, hR, mapB]
  exact (fun x h1 h2 => by (try simp only [up_apply]); repeat rw [if_neg (by omega)])
 obtain rfl : i0 = c.claims.length := by omega
 have hI0 : ¬ (c.claims.length : Int) < (c.claims.length : Int) := by omega
 rw [List.drop_length] at hL0
 simp only [ckL] at hL0
 refine awR [] [none] ?_
 simp only [(id F_cCk), seval, cGrp, h1, h2, h0, hI0]
 repeat refine ob ?_
 refine awF ?_
 refine awQ ?_
 simp only [(id F_cCk), seval]
 refine awR [] [none] ?_
 simp only [(id F_cCk), seval, cGrp, h1, h2, h0, hI0]
 repeat refine ob ?_
 have hR : ckC g c T = (0, T1) := by rw [hck, ← hL0]
 refine awX ?_
 simp only [(id F_cCk), seval, hR, mapB]
 exact (fun x h1 h2 => by (try simp only [up_apply]); repeat rw [if_neg (by omega)])
def F_cCkA := And.intro zS (And.intro tf14 (And.intro tf70 (And.intro tf15 (And.intro tf16 (And.intro tf68 (And.intro tf17 (And.intro tf19 (And.intro tf20 (And.intro tf23 (And.intro tf24 (And.intro tf49 (And.intro tf63 (And.intro tf58 (And.intro tf30 (And.intro tf33 (And.intro tf74 (And.intro tf51 (And.intro tf66 (And.intro tf60 (tf34))))))))))))))))))))
set_option maxRecDepth 100000 in
set_option maxHeartbeats 4000000 in
theorem cCheckA_A (g : GGrp) (l : List GCls) (hg : grpOK g) (hng : g.ests.length ≤ 1000000) (hll : ∀ c ∈ l, c.claims.length ≤ 9223372036854775807) (hl1 : l.length ≤ 1000000000000) (hcl : ∀ e ∈ g.ests, e.claims.length ≤ 1000000 ∧ ∀ c ∈ e.claims, bigOK c.amount) : ACall Tryz.prog 18 [.agg (cGrp g), .one (.sh 4 l.length (flat cCls l))] (one (.int .i64 (ckS (gcSpec g) g l))) := by
 refine acall_of Tryz.func18 rfl (by decide) (N := 65) rfl (by simp) (R := [.tmp 4]) rfl fun en k0 => ?_
 refine awR [] [none, none] ?_
 simp only [(id F_cCkA), seval, cGrp]
 repeat refine ob ?_
 have hG := gCheck_A g hg
 refine awR [] [none, none, none] ?_
 simp only [(id F_cCkA), seval, cGrp, flat_pure cEst_pure, flat_pure cDebt_pure]
 repeat refine ob ?_
 refine ⟨_, hG, (by first | rfl | simp [allA, pure1, pureCs, pureC, A1.cells, flat_pure cI_pure]), ?_⟩
 try unfold Later
 try simp only [(id F_cCkA), seval, cGrp, flat_pure cEst_pure, flat_pure cDebt_pure]
 repeat refine ob ?_
 by_cases hg0 : gcSpec g = 0
 ·
  refine awR [] [none, none] ?_
  simp only [(id F_cCkA), seval, cGrp, hg0]
  repeat refine ob ?_
  refine awF ?_
  refine awK ?_
  simp only [(id F_cCkA), seval]
  by_cases h64 : (64 : Int) < (l.length : Int)
  ·
   refine awR [] [none, none, none] ?_
   simp only [(id F_cCkA), seval, cGrp, hg0, h64]
   repeat refine ob ?_
   refine awT ?_
   refine awR [] [none] ?_
   simp only [(id F_cCkA), seval, cGrp, hg0, h64]
   repeat refine ob ?_
   refine awX ?_
   have hR : ckS (gcSpec g) g l = 2 := by unfold ckS; rw [if_pos hg0, if_pos h64]
   rw [hg0] at hR
   simp only [(id F_cCkA), seval, hR]
  refine awR [] [none, none, none] ?_
  simp only [(id F_cCkA), seval, cGrp, hg0, h64]
  repeat refine ob ?_
  refine awF ?_
  refine awK ?_
  simp only [(id F_cCkA), seval]
  refine awR [] [none, none] ?_
  simp only [(id F_cCkA), seval, cGrp, hg0, h64]
  repeat refine ob ?_
  refine awR [] [none, none, none] ?_
  simp only [(id F_cCkA), seval, cGrp, hg0, h64]
  repeat refine ob ?_
  refine awp_keep [2, 6, 23, 24, 25] [2, 22] ?_
  try unfold Later
  try simp only [(id F_cCkA), seval, cGrp, hg0, h64]
  repeat' first|apply awS|apply awB
  refine awp_loopw (fun n st => ∃ k nx s T, k ≤ l.length ∧ n = l.length - k ∧ ckA g (l.drop k) T = ckA g l [] ∧ st = ⟨mkT [(2, .val (.one (.ptr 2 0 0))), (6, .val (.one (.own 22 s 0 0))), (23, .val (.one (.sh 4 l.length (flat cCls l)))), (24, one (.int .i64 l.length)), (25, one (.int .i64 k))], mkH [(2, ⟨0, 27, 2, 1, cGrp g⟩), (22, mapB s T)], nx, 0⟩) (l.length) ⟨0, _, _, [], by omega, by omega, rfl, rfl⟩ ?_
  rintro n0 st ⟨k, nx0, s, T, hk, rfl, hL, rfl⟩
  by_cases hlt : (k : Int) < (l.length : Int)
  ·
   refine awR [] [none] ?_
   simp only [(id F_cCkA), seval, cGrp, hg0, h64, hlt]
   repeat refine ob ?_
   refine awT ?_
   refine awK ?_
   simp only [(id F_cCkA), seval]
   have hkl : k < l.length := by omega
   have hatk := flat_at cCls_len l k hkl
   rw [List.drop_eq_getElem_cons hkl] at hL
   obtain ⟨c, hcg⟩ : ∃ c, l[k] = c := ⟨_, rfl⟩
   rw [hcg] at hatk hL
   simp only [ckA] at hL
   refine awR [] [none, none, none, none] ?_
   simp only [(id F_cCkA), seval, cGrp, hg0, h64, hlt, hatk, cCls]
   repeat refine ob ?_
   refine awR [32] [none, none, none, none, none] ?_
   simp only [(id F_cCkA), seval, cGrp, hg0, h64, hlt, cCls]
   repeat refine ob ?_
   refine ⟨_, cCheck_I g c T _ _ s ?_ (by rfl) hng (hll c (by rw [← hcg]; exact List.getElem_mem hkl)) hcl, ?_⟩
   ·
    intro x B hB
    simp only [up_apply] at hB
    split at hB
    ·
     omega
    split at hB
    ·
     omega
    split at hB
    ·
     omega
    cases hB
   rintro res H' nx' ⟨rfl, h6, hrest⟩
   have hB2 := hrest 2 (by omega) (by omega)
   simp only [up_apply, (id F_cCkA), seval] at hB2
   simp only [(id F_cCkA), seval]
   by_cases hc0 : (ckC g c T).1 = 0
   ·
    refine awR [] [none, none] ?_
    simp only [(id F_cCkA), seval, cGrp, hg0, h64, hlt, hc0]
    repeat refine ob ?_
    refine awF ?_
    refine awK ?_
    simp only [(id F_cCkA), seval]
    refine awR [] [none, none] ?_
    simp only [(id F_cCkA), seval, cGrp, hg0, h64, hlt, hc0]
    repeat refine ob ?_
    rw [if_pos hc0] at hL
    repeat refine ob ?_
    refine ⟨_, wk_keep [2, 6, 23, 24, 25] [2, 22], l.length - (k + 1), by omega, k + 1, ?na15, s, (ckC g c T).2, by omega, rfl, hL, ?st15⟩
    case st15 => (simp only [(id F_cCkA), seval, h6, hB2, mapB]; first | rfl | (simp; done))
   refine awR [] [none, none] ?_
   simp only [(id F_cCkA), seval, cGrp, hg0, h64, hlt, hc0]
   repeat refine ob ?_
   refine awT ?_
   refine awR [] [none, none] ?_
   simp only [(id F_cCkA), seval, cGrp, hg0, h64, hlt, hc0, mapB]
   repeat refine ob ?_
   rw [if_neg hc0] at hL
   have hR : ckS (gcSpec g) g l = (ckC g c T).1 := by
     unfold ckS
     rw [if_pos hg0, if_neg h64, ← hL]
     simp [hc0]
   rw [hg0] at hR
   refine awX ?_
   simp only [(id F_cCkA), seval, hR]
  refine awR [] [none] ?_
  simp only [(id F_cCkA), seval, cGrp, hg0, h64, hlt]
  repeat refine ob ?_
  refine awF ?_
  refine awQ ?_
  simp only [(id F_cCkA), seval]
  obtain rfl : k = l.length := by omega
  rw [List.drop_length] at hL
  simp only [ckA] at hL
  refine awR [] [none, none, none, none] ?_
  simp only [(id F_cCkA), seval, cGrp, hg0, h64, hlt]
  repeat refine ob ?_
  refine awp_keep [2, 6, 38, 39, 40] [2, 22] ?_
  try unfold Later
  try simp only [(id F_cCkA), seval, cGrp, hg0, h64, hlt]
  repeat' first|apply awS|apply awB
  refine awp_loopw (fun n st => ∃ i1 nx, i1 ≤ g.ests.length ∧ n = g.ests.length - i1 ∧ nnE T (g.ests.drop i1) i1 = nnE T g.ests 0 ∧ st = ⟨mkT [(2, .val (.one (.ptr 2 0 0))), (6, .val (.one (.own 22 s 0 0))), (38, .val (.one (.sh 5 g.ests.length (flat cEst g.ests)))), (39, one (.int .i64 g.ests.length)), (40, one (.int .i64 i1))], mkH [(2, ⟨0, 27, 2, 1, cGrp g⟩), (22, mapB s T)], nx, 0⟩) (g.ests.length) ⟨0, _, by omega, by omega, by rfl, rfl⟩ ?_
  rintro n1 st ⟨i1, nx1, hk1, rfl, hL1, rfl⟩
  by_cases hlt1 : i1 < g.ests.length
  ·
   have hI1 : (i1 : Int) < (g.ests.length : Int) := by omega
   have hat1 := flat_at cEst_len g.ests i1 hlt1
   try rw [Nat.mul_one] at hat1
   rw [List.drop_eq_getElem_cons hlt1] at hL1
   have hes := hcl _ (List.getElem_mem hlt1)
   generalize g.ests[i1] = e at *
   simp only [nnE] at hL1
   refine awR [] [none] ?_
   simp only [(id F_cCkA), seval, cGrp, hg0, h64, hlt, hI1, hat1]
   repeat refine ob ?_
   refine awT ?_
   refine awK ?_
   simp only [(id F_cCkA), seval]
   refine awR [] [none, none, none, none, none, none] ?_
   simp only [(id F_cCkA), seval, cGrp, hg0, h64, hlt, hI1, hat1, cEst]
   repeat refine ob ?_
   refine awR [] [none, none, none, none] ?_
   simp only [(id F_cCkA), seval, cGrp, hg0, h64, hlt, hI1, hat1]
   repeat refine ob ?_
   refine awp_keep [2, 6, 10, 38, 39, 40, 46, 47, 48] [2, 22] ?_
   try unfold Later
   try simp only [(id F_cCkA), seval, cGrp, hg0, h64, hlt, hI1, hat1]
   repeat' first|apply awS|apply awB
   refine awp_loopw (fun n st => ∃ i2 nx, i2 ≤ e.claims.length ∧ n = e.claims.length - i2 ∧ nnC T i1 (e.claims.drop i2) i2 = nnC T i1 e.claims 0 ∧ st = ⟨mkT [(2, .val (.one (.ptr 2 0 0))), (6, .val (.one (.own 22 s 0 0))), (10, one (.int .i64 i1)), (38, .val (.one (.sh 5 g.ests.length (flat cEst g.ests)))), (39, one (.int .i64 g.ests.length)), (40, one (.int .i64 i1)), (46, .val (.one (.sh 5 e.claims.length (flat cClaim e.claims)))), (47, one (.int .i64 e.claims.length)), (48, one (.int .i64 i2))], mkH [(2, ⟨0, 27, 2, 1, cGrp g⟩), (22, mapB s T)], nx, 0⟩) (e.claims.length) ⟨0, _, by omega, by omega, by rfl, rfl⟩ ?_
   rintro n2 st ⟨i2, nx2, hk2, rfl, hL2, rfl⟩
   by_cases hlt2 : i2 < e.claims.length
   ·
    have hI2 : (i2 : Int) < (e.claims.length : Int) := by omega
    have hat2 := flat_at cClaim_len e.claims i2 hlt2
    try rw [Nat.mul_one] at hat2
    rw [List.drop_eq_getElem_cons hlt2] at hL2
    have hE : ∀ rk, ACall Tryz.prog 47 [.agg [.lit (.int .i64 e.claims[i2].holder), .lit (.int .i64 rk), .lit (.bool e.claims[i2].amount.neg), .lit (.string e.claims[i2].amount.num), .lit (.string e.claims[i2].amount.den)]] (one (.bool (elB e.claims[i2]))) := fun rk => cElig_A ⟨e.claims[i2].holder, rk, e.claims[i2].amount⟩ (bigOK_rat (r := e.claims[i2].amount) (hes.2 _ (List.getElem_mem hlt2)))
    generalize e.claims[i2] = y at *
    simp only [nnC] at hL2
    refine awR [] [none] ?_
    simp only [(id F_cCkA), seval, cGrp, hg0, h64, hlt, hI1, hat1, hI2, hat2]
    repeat refine ob ?_
    refine awT ?_
    refine awK ?_
    simp only [(id F_cCkA), seval]
    refine awR [] [none, none, none, none, none, none] ?_
    simp only [(id F_cCkA), seval, cGrp, hg0, h64, hlt, hI1, hat1, hI2, hat2, cClaim]
    repeat refine ob ?_
    by_cases he : elB y = true
    ·
     by_cases hT : ((i1 : Int), (i2 : Int)) ∈ T
     ·
      have hmg := mget_in ((i1 : Int), (i2 : Int)) T hT
      refine awR [] [none, none, none, some (55, true), some (55, true), some (55, true), some (55, true), some (55, true), some (55, true), none] ?_
      simp only [(id F_cCkA), seval, cGrp, hg0, h64, hlt, hI1, hat1, hI2, hat2, he, hT, cClaim, mapB, hmg, Option.getD_some, Option.getD_none]
      repeat refine ob ?_
      refine ⟨_, (hE _), (by first | rfl | simp [allA, pure1, pureCs, pureC, A1.cells, flat_pure cI_pure]), ?_⟩
      try unfold Later
      try simp only [(id F_cCkA), seval, cGrp, hg0, h64, hlt, hI1, hat1, hI2, hat2, he, hT, cClaim, mapB, hmg, Option.getD_some, Option.getD_none]
      repeat refine ob ?_
      refine ⟨MK_leg ((i1 : Int), (i2 : Int)) T, ?_⟩
      repeat refine ob ?_
      refine awF ?_
      refine awK ?_
      simp only [(id F_cCkA), seval]
      refine awR [] [none, none] ?_
      simp only [(id F_cCkA), seval, cGrp, hg0, h64, hlt, hI1, hat1, hI2, hat2, he, hT]
      repeat refine ob ?_
      repeat refine ob ?_
      refine ⟨_, wk_keep [2, 6, 10, 38, 39, 40, 46, 47, 48] [2, 22], e.claims.length - (i2 + 1), by omega, i2 + 1, ?a27_nx, by omega, rfl, ?i27_0, ?st27⟩
      case st27 => (simp only [(id F_cCkA), seval, cGrp, hg0, h64, hlt, hI1, hat1, hI2, hat2, he, hT]; first | rfl | (simp [hg0, h64, hlt, hI1, hat1, hI2, hat2, he, hT, Nat.add_mul]; done))
      case i27_0 => (first | exact hL2 | (rw [← hL2]; simp only [reduceIte, hg0, h64, hlt, hI1, hat1, hI2, hat2, he, hT]; done) | (rw [← hL2]; simp [hg0, h64, hlt, hI1, hat1, hI2, hat2, he, hT]; done) | (simp [hg0, h64, hlt, hI1, hat1, hI2, hat2, he, hT] at hL2; simpa using hL2) | (rw [← hL2]; simp [*]; done))
     have hmg := mget_out ((i1 : Int), (i2 : Int)) T hT
     refine awR [] [none, none, none, some (55, true), some (55, true), some (55, true), some (55, true), some (55, true), some (55, true), none] ?_
     simp only [(id F_cCkA), seval, cGrp, hg0, h64, hlt, hI1, hat1, hI2, hat2, he, hT, cClaim, mapB, hmg, Option.getD_some, Option.getD_none]
     repeat refine ob ?_
     refine ⟨_, (hE _), (by first | rfl | simp [allA, pure1, pureCs, pureC, A1.cells, flat_pure cI_pure]), ?_⟩
     try unfold Later
     try simp only [(id F_cCkA), seval, cGrp, hg0, h64, hlt, hI1, hat1, hI2, hat2, he, hT, cClaim, mapB, hmg, Option.getD_some, Option.getD_none]
     repeat refine ob ?_
     refine ⟨MK_leg ((i1 : Int), (i2 : Int)) T, ?_⟩
     repeat refine ob ?_
     refine awT ?_
     refine awR [] [none] ?_
     simp only [(id F_cCkA), seval, cGrp, hg0, h64, hlt, hI1, hat1, hI2, hat2, he, hT]
     repeat refine ob ?_
     rw [← hL2] at hL1
     have hR : ckS (gcSpec g) g l = 45 := by
       unfold ckS
       rw [if_pos hg0, if_neg h64, ← hL]
       simp only [he, hT, if_true, if_false] at hL1
       simp [← hL1]
     rw [hg0] at hR
     refine awX ?_
     simp only [(id F_cCkA), seval, hR]
    refine awR [] [none, none, none, some (55, true), some (55, true), some (55, true), some (55, true), some (55, true), some (55, true), none] ?_
    simp only [(id F_cCkA), seval, cGrp, hg0, h64, hlt, hI1, hat1, hI2, hat2, he, cClaim, mapB]
    repeat refine ob ?_
    refine ⟨_, (hE _), (by first | rfl | simp [allA, pure1, pureCs, pureC, A1.cells, flat_pure cI_pure]), ?_⟩
    try unfold Later
    try simp only [(id F_cCkA), seval, cGrp, hg0, h64, hlt, hI1, hat1, hI2, hat2, he, cClaim, mapB]
    repeat refine ob ?_
    refine awF ?_
    refine awK ?_
    simp only [(id F_cCkA), seval]
    refine awR [] [none, none] ?_
    simp only [(id F_cCkA), seval, cGrp, hg0, h64, hlt, hI1, hat1, hI2, hat2, he]
    repeat refine ob ?_
    repeat refine ob ?_
    refine ⟨_, wk_keep [2, 6, 10, 38, 39, 40, 46, 47, 48] [2, 22], e.claims.length - (i2 + 1), by omega, i2 + 1, ?a33_nx, by omega, rfl, ?i33_0, ?st33⟩
    case st33 => (simp only [(id F_cCkA), seval, cGrp, hg0, h64, hlt, hI1, hat1, hI2, hat2, he]; first | rfl | (simp [hg0, h64, hlt, hI1, hat1, hI2, hat2, he, Nat.add_mul]; done))
    case i33_0 => (first | exact hL2 | (rw [← hL2]; simp only [reduceIte, hg0, h64, hlt, hI1, hat1, hI2, hat2, he]; done) | (rw [← hL2]; simp [hg0, h64, hlt, hI1, hat1, hI2, hat2, he]; done) | (simp [hg0, h64, hlt, hI1, hat1, hI2, hat2, he] at hL2; simpa using hL2) | (rw [← hL2]; simp [*]; done))
   obtain rfl : i2 = e.claims.length := by omega
   have hI2 : ¬ (e.claims.length : Int) < (e.claims.length : Int) := by omega
   rw [List.drop_length] at hL2
   simp only [nnC] at hL2
   refine awR [] [none] ?_
   simp only [(id F_cCkA), seval, cGrp, hg0, h64, hlt, hI1, hat1, hI2]
   repeat refine ob ?_
   refine awF ?_
   refine awQ ?_
   simp only [(id F_cCkA), seval]
   refine awR [] [none, none] ?_
   simp only [(id F_cCkA), seval, cGrp, hg0, h64, hlt, hI1, hat1, hI2]
   repeat refine ob ?_
   repeat refine ob ?_
   refine ⟨_, wk_keep [2, 6, 38, 39, 40] [2, 22], g.ests.length - (i1 + 1), by omega, i1 + 1, ?a36_nx, by omega, rfl, ?i36_0, ?st36⟩
   case st36 => (simp only [(id F_cCkA), seval, cGrp, hg0, h64, hlt, hI1, hat1, hI2]; first | rfl | (simp [hg0, h64, hlt, hI1, hat1, hI2, Nat.add_mul]; done))
   case i36_0 => (first | exact hL1 | (rw [← hL2] at hL1; simpa using hL1) | (rw [← hL1, ← hL2]; simp))
  obtain rfl : i1 = g.ests.length := by omega
  have hI1 : ¬ (g.ests.length : Int) < (g.ests.length : Int) := by omega
  rw [List.drop_length] at hL1
  simp only [nnE] at hL1
  refine awR [] [none] ?_
  simp only [(id F_cCkA), seval, cGrp, hg0, h64, hlt, hI1]
  repeat refine ob ?_
  refine awF ?_
  refine awQ ?_
  simp only [(id F_cCkA), seval]
  refine awR [] [none] ?_
  simp only [(id F_cCkA), seval, cGrp, hg0, h64, hlt, hI1]
  repeat refine ob ?_
  have hR : ckS (gcSpec g) g l = 0 := by
    unfold ckS
    rw [if_pos hg0, if_neg h64, ← hL]
    simp [← hL1]
  rw [hg0] at hR
  refine awX ?_
  simp only [(id F_cCkA), seval, hR]
 refine awR [] [none, none] ?_
 simp only [(id F_cCkA), seval, cGrp, hg0]
 repeat refine ob ?_
 refine awT ?_
 refine awR [] [none, none] ?_
 simp only [(id F_cCkA), seval, cGrp, hg0]
 repeat refine ob ?_
 refine awX ?_
 have hR : ckS (gcSpec g) g l = gcSpec g := by unfold ckS; rw [if_neg hg0]
 simp only [(id F_cCkA), seval, hR]
def F_rInC := And.intro zS (And.intro tf41 (And.intro tf7 (And.intro tf71 (And.intro tf61 (And.intro tf62 (tf12))))))
set_option maxRecDepth 100000 in
set_option maxHeartbeats 4000000 in
theorem rInClass_A (c : GCls) (i k : Int) (hc : c.claims.length ≤ 9223372036854775807) : ACall Tryz.prog 50 [.agg (cCls c), .one (.lit (.int .i64 i)), .one (.lit (.int .i64 k))] (one (.bool (inC c i k))) := by
 refine acall_of Tryz.func50 rfl (by decide) (N := 26) rfl (by simp) (R := [.tmp 6]) rfl fun en k0 => ?_
 refine awR [] [none, none] ?_
 simp only [(id F_rInC), seval, cCls]
 repeat refine ob ?_
 by_cases h1 : c.est = i
 ·
  refine awR [] [none, none, none, none] ?_
  simp only [(id F_rInC), seval, cCls, h1]
  repeat refine ob ?_
  refine awF ?_
  refine awK ?_
  simp only [(id F_rInC), seval]
  refine awR [] [none] ?_
  simp only [(id F_rInC), seval, cCls, h1]
  repeat refine ob ?_
  refine awp_keep [2, 3, 7] [3] ?_
  try unfold Later
  try simp only [(id F_rInC), seval, cCls, h1]
  repeat' first|apply awS|apply awB
  refine awp_loopw (fun n st => ∃ i0 nx, i0 ≤ c.claims.length ∧ n = c.claims.length - i0 ∧ memB k (c.claims.drop i0) = memB k c.claims ∧ st = ⟨mkT [(2, one (.int .i64 k)), (3, .val (.one (.ptr 3 0 0))), (7, one (.int .i64 i0))], mkH [(3, ⟨0, 58, 4, 1, [.lit (.int .i64 i), .lit (.int .i64 c.rank), .lit (.bool c.small), .sh 1 c.claims.length (flat cI c.claims)]⟩)], nx, 0⟩) (c.claims.length) ⟨0, _, by omega, by omega, by rfl, rfl⟩ ?_
  rintro n0 st ⟨i0, nx0, hk0, rfl, hL0, rfl⟩
  by_cases hlt0 : i0 < c.claims.length
  ·
   have hI0 : (i0 : Int) < (c.claims.length : Int) := by omega
   have hat0 := flat_at cI_len c.claims i0 hlt0
   try rw [Nat.mul_one] at hat0
   rw [List.drop_eq_getElem_cons hlt0] at hL0
   generalize c.claims[i0] = x at *
   simp only [memB] at hL0
   refine awR [] [none, none, none, none, none] ?_
   simp only [(id F_rInC), seval, cCls, h1, hI0, hat0]
   repeat refine ob ?_
   refine awT ?_
   refine awK ?_
   simp only [(id F_rInC), seval]
   by_cases hx : x = k
   ·
    refine awR [] [none, none, none, none, none, none, none] ?_
    simp only [(id F_rInC), seval, cCls, h1, hI0, hat0, hx, cI]
    repeat refine ob ?_
    refine awT ?_
    refine awR [] [none] ?_
    simp only [(id F_rInC), seval, cCls, h1, hI0, hat0, hx]
    repeat refine ob ?_
    refine awX ?_
    have hR : inC c i k = true := by unfold inC; rw [if_pos h1, ← memB_eq, ← hL0, if_pos hx]
    simp only [(id F_rInC), seval, hR]
   refine awR [] [none, none, none, none, none, none, none] ?_
   simp only [(id F_rInC), seval, cCls, h1, hI0, hat0, hx, cI]
   repeat refine ob ?_
   refine awF ?_
   refine awK ?_
   simp only [(id F_rInC), seval]
   refine awR [] [none, none, none] ?_
   simp only [(id F_rInC), seval, cCls, h1, hI0, hat0, hx]
   repeat refine ob ?_
   repeat refine ob ?_
   refine ⟨_, wk_keep [2, 3, 7] [3], c.claims.length - (i0 + 1), by omega, i0 + 1, ?a9_nx, by omega, rfl, ?i9_0, ?st9⟩
   case st9 => (simp only [(id F_rInC), seval, cCls, h1, hI0, hat0, hx]; first | rfl | (simp [h1, hI0, hat0, hx, Nat.add_mul]; done))
   case i9_0 => (first | exact hL0 | (rw [← hL0]; simp only [reduceIte, h1, hI0, hat0, hx]; done) | (rw [← hL0]; simp [h1, hI0, hat0, hx]; done) | (simp [h1, hI0, hat0, hx] at hL0; simpa using hL0) | (rw [← hL0]; simp [*]; done))
  obtain rfl : i0 = c.claims.length := by omega
  have hI0 : ¬ (c.claims.length : Int) < (c.claims.length : Int) := by omega
  rw [List.drop_length] at hL0
  simp only [memB] at hL0
  refine awR [] [none, none, none, none, none] ?_
  simp only [(id F_rInC), seval, cCls, h1, hI0]
  repeat refine ob ?_
  refine awF ?_
  refine awQ ?_
  simp only [(id F_rInC), seval]
  refine awR [] [none] ?_
  simp only [(id F_rInC), seval, cCls, h1, hI0]
  repeat refine ob ?_
  refine awX ?_
  have hR : inC c i k = false := by unfold inC; rw [if_pos h1, ← memB_eq, ← hL0]
  simp only [(id F_rInC), seval, hR]
 refine awR [] [none, none, none, none] ?_
 simp only [(id F_rInC), seval, cCls, h1]
 repeat refine ob ?_
 refine awT ?_
 refine awR [] [none] ?_
 simp only [(id F_rInC), seval, cCls, h1]
 repeat refine ob ?_
 refine awX ?_
 have hR : inC c i k = false := by unfold inC; rw [if_neg h1]
 simp only [(id F_rInC), seval, hR]
def F_rCkC := And.intro zS (And.intro tf14 (And.intro tf70 (And.intro tf15 (And.intro tf41 (And.intro tf16 (And.intro tf68 (And.intro tf17 (And.intro tf7 (And.intro tf43 (And.intro tf71 (And.intro tf72 (And.intro tf61 (And.intro tf19 (And.intro tf20 (And.intro tf23 (And.intro tf24 (And.intro tf62 (And.intro tf49 (And.intro tf63 (And.intro tf12 (And.intro tf64 (tf66))))))))))))))))))))))
set_option maxRecDepth 100000 in
set_option maxHeartbeats 4000000 in
theorem rCheckC_A (g : GGrp) (l : List GCls) (i : Nat) (hi : i < l.length) (hng : g.ests.length ≤ 1000000) (hll : ∀ c ∈ l, c.claims.length ≤ 9223372036854775807) (hl1 : l.length ≤ 1000000000000) (hcl : ∀ e ∈ g.ests, e.claims.length ≤ 1000000 ∧ ∀ c ∈ e.claims, bigOK c.amount) : ACall Tryz.prog 48 [.agg (cGrp g), .one (.sh 4 l.length (flat cCls l)), .one (.lit (.int .i64 i))] (one (.int .i64 (ckC g l[i] (clLegs (l.take i))).1)) := by
 refine acall_of Tryz.func48 rfl (by decide) (N := 98) rfl (by simp) (R := [.tmp 6]) rfl fun en k0 => ?_
 refine awR [] [none, none] ?_
 simp only [(id F_rCkC), seval, cGrp]
 repeat refine ob ?_
 have hatd := flat_at cCls_len l i hi
 have hcn := hll _ (List.getElem_mem hi)
 obtain ⟨c, hcg⟩ : ∃ c, l[i] = c := ⟨_, rfl⟩
 rw [hcg] at hatd hcn ⊢
 refine awR [] [none, none, none, none, none, none] ?_
 simp only [(id F_rCkC), seval, cGrp, hatd, cCls]
 repeat refine ob ?_
 by_cases h1 : c.est < 0
 ·
  refine awR [] [none, none, none, none, some (19, false), some (19, false), some (19, false), some (19, false), some (19, false), some (19, false), none] ?_
  simp only [(id F_rCkC), seval, cGrp, h1, cCls]
  repeat refine ob ?_
  refine awT ?_
  refine awR [] [none] ?_
  simp only [(id F_rCkC), seval, cGrp, h1]
  repeat refine ob ?_
  have hR : (ckC g c (clLegs (l.take i))).1 = 1 := by unfold ckC; simp [h1]
  refine awX ?_
  simp only [(id F_rCkC), seval, hR]
 by_cases h2 : (g.ests.length : Int) ≤ c.est
 ·
  refine awR [] [none, none, none, none, some (19, false), some (19, false), some (19, false), some (19, false), some (19, false), some (19, false), none] ?_
  simp only [(id F_rCkC), seval, cGrp, h1, h2, cCls]
  repeat refine ob ?_
  refine awT ?_
  refine awR [] [none] ?_
  simp only [(id F_rCkC), seval, cGrp, h1, h2]
  repeat refine ob ?_
  have hR : (ckC g c (clLegs (l.take i))).1 = 1 := by unfold ckC; simp [h1, h2]
  refine awX ?_
  simp only [(id F_rCkC), seval, hR]
 refine awR [] [none, none, none, none, some (19, false), some (19, false), some (19, false), some (19, false), some (19, false), some (19, false), none] ?_
 simp only [(id F_rCkC), seval, cGrp, h1, h2, cCls]
 repeat refine ob ?_
 refine awF ?_
 refine awK ?_
 simp only [(id F_rCkC), seval]
 by_cases h0 : (c.claims.length : Int) = 0
 ·
  refine awR [] [none, none, none, none] ?_
  simp only [(id F_rCkC), seval, cGrp, h1, h2, h0, cCls]
  repeat refine ob ?_
  refine awT ?_
  refine awR [] [none] ?_
  simp only [(id F_rCkC), seval, cGrp, h1, h2, h0]
  repeat refine ob ?_
  have hR : (ckC g c (clLegs (l.take i))).1 = 21 := by unfold ckC; simp [h1, h2, h0]
  refine awX ?_
  simp only [(id F_rCkC), seval, hR]
 refine awR [] [none, none, none, none] ?_
 simp only [(id F_rCkC), seval, cGrp, h1, h2, h0, cCls]
 repeat refine ob ?_
 refine awF ?_
 refine awK ?_
 simp only [(id F_rCkC), seval]
 have hat := flat_get cEst_len g.ests c.est ztEst (by omega) (by omega)
 obtain ⟨e, hge⟩ : ∃ e, g.ests.getD c.est.toNat ztEst = e := ⟨_, rfl⟩
 rw [hge] at hat
 have hem : e ∈ g.ests := by rw [← hge, List.getD_eq_getElem?_getD, List.getElem?_eq_getElem (show c.est.toNat < g.ests.length by omega)]; exact List.getElem_mem _
 have hes := hcl e hem
 have hck : ckC g c (clLegs (l.take i)) = ckL e.claims c.est c.rank c.claims (clLegs (l.take i)) := by unfold ckC; rw [if_neg h1, if_neg h2, if_neg h0, hge]
 refine awR [] [none, none, none, none, none, none, none, none] ?_
 simp only [(id F_rCkC), seval, cGrp, h1, h2, h0, cCls, hat, cEst]
 repeat refine ob ?_
 refine awR [] [none] ?_
 simp only [(id F_rCkC), seval, cGrp, h1, h2, h0]
 repeat refine ob ?_
 refine awp_keep [1, 2, 3, 7, 8, 9] [3, 7] ?_
 try unfold Later
 try simp only [(id F_rCkC), seval, cGrp, h1, h2, h0]
 repeat' first|apply awS|apply awB
 refine awp_loopw (fun n st => ∃ i0 T1 nx, i0 ≤ c.claims.length ∧ n = c.claims.length - i0 ∧ (ckL e.claims c.est c.rank (c.claims.drop i0) T1).1 = (ckL e.claims c.est c.rank c.claims (clLegs (l.take i))).1 ∧ T1 = clLegs (l.take i) ++ (c.claims.take i0).map (fun k => (c.est, k)) ∧ st = ⟨mkT [(1, .val (.one (.sh 4 l.length (flat cCls l)))), (2, one (.int .i64 i)), (3, .val (.one (.ptr 3 0 0))), (7, .val (.one (.ptr 7 1 0))), (8, .val (.one (.sh 5 e.claims.length (flat cClaim e.claims)))), (9, one (.int .i64 i0))], mkH [(3, ⟨0, 27, 2, 1, cGrp g⟩), (7, ⟨1, 58, 4, 1, cCls c⟩)], nx, 0⟩) (c.claims.length) ⟨0, (clLegs (l.take i)), _, by omega, by omega, by rfl, (by first | omega | assumption | rfl | simp | (simp; omega)), rfl⟩ ?_
 rintro n0 st ⟨i0, T1, nx0, hk0, rfl, hL0, hV0_1, rfl⟩
 by_cases hlt0 : i0 < c.claims.length
 ·
  have hI0 : (i0 : Int) < (c.claims.length : Int) := by omega
  have hat0 := flat_at cI_len c.claims i0 hlt0
  try rw [Nat.mul_one] at hat0
  rw [List.drop_eq_getElem_cons hlt0] at hL0
  have htk9 : (c.claims.take (i0 + 1)).map (fun k => (c.est, k)) = (c.claims.take i0).map (fun k => (c.est, k)) ++ [(c.est, c.claims[i0])] := by rw [List.take_succ_eq_append_getElem hlt0, List.map_append]; rfl
  generalize c.claims[i0] = kk at *
  simp only [ckL] at hL0
  refine awR [] [none, none, none, none, none] ?_
  simp only [(id F_rCkC), seval, cGrp, h1, h2, h0, hI0, hat0, cCls]
  repeat refine ob ?_
  refine awT ?_
  refine awK ?_
  simp only [(id F_rCkC), seval]
  refine awR [] [none, none, none, none, none, none] ?_
  simp only [(id F_rCkC), seval, cGrp, h1, h2, h0, hI0, hat0, cCls, cI]
  repeat refine ob ?_
  by_cases h3 : kk < 0
  ·
   refine awR [] [none, none, none, some (52, false), some (52, false), some (52, false), some (52, false), none] ?_
   simp only [(id F_rCkC), seval, cGrp, h1, h2, h0, hI0, hat0, h3]
   repeat refine ob ?_
   refine awT ?_
   refine awR [] [none] ?_
   simp only [(id F_rCkC), seval, cGrp, h1, h2, h0, hI0, hat0, h3]
   repeat refine ob ?_
   have hR : (ckC g c (clLegs (l.take i))).1 = 1 := by rw [hck, ← hL0]; simp [h3]
   refine awX ?_
   simp only [(id F_rCkC), seval, hR]
  by_cases h4 : (e.claims.length : Int) ≤ kk
  ·
   refine awR [] [none, none, none, some (52, false), some (52, false), some (52, false), some (52, false), none] ?_
   simp only [(id F_rCkC), seval, cGrp, h1, h2, h0, hI0, hat0, h3, h4]
   repeat refine ob ?_
   refine awT ?_
   refine awR [] [none] ?_
   simp only [(id F_rCkC), seval, cGrp, h1, h2, h0, hI0, hat0, h3, h4]
   repeat refine ob ?_
   have hR : (ckC g c (clLegs (l.take i))).1 = 1 := by rw [hck, ← hL0]; simp [h3, h4]
   refine awX ?_
   simp only [(id F_rCkC), seval, hR]
  refine awR [] [none, none, none, some (52, false), some (52, false), some (52, false), some (52, false), none] ?_
  simp only [(id F_rCkC), seval, cGrp, h1, h2, h0, hI0, hat0, h3, h4]
  repeat refine ob ?_
  have hatc := flat_get cClaim_len e.claims kk default (by omega) (by omega)
  obtain ⟨y, hgy⟩ : ∃ y, e.claims.getD kk.toNat default = y := ⟨_, rfl⟩
  rw [hgy] at hatc hL0
  have hym : y ∈ e.claims := by rw [← hgy, List.getD_eq_getElem?_getD, List.getElem?_eq_getElem (show kk.toNat < e.claims.length by omega)]; exact List.getElem_mem _
  have hE : ∀ rk, ACall Tryz.prog 49 [.agg [.lit (.int .i64 y.holder), .lit (.int .i64 rk), .lit (.bool y.amount.neg), .lit (.string y.amount.num), .lit (.string y.amount.den)]] (one (.bool (elB y))) := fun rk => rElig_A ⟨y.holder, rk, y.amount⟩ (bigOK_rat (r := y.amount) (hes.2 y hym))
  refine awF ?_
  refine awK ?_
  simp only [(id F_rCkC), seval]
  by_cases he : elB y = true
  ·
   by_cases hr : y.rank = c.rank
   ·
    refine awD (scq [1, 3, 5, 7, 8, 11, 13, 15, 17, 19, 21, 23, 25, 27, 29, 31] .nil) [none, none, none, none, none, none, none, some (64, false), some (64, false), some (64, false), some (64, false), some (64, false), some (64, false), some (64, false), some (64, false), none] ?_
    simp only [(id F_rCkC), seval, cGrp, h1, h2, h0, hI0, hat0, h3, h4, he, hr, hatc, cClaim, cCls]
    repeat refine ob ?_
    refine ⟨_, (hE _), (by first | rfl | simp [allA, pure1, pureCs, pureC, A1.cells, flat_pure cI_pure]), ?_⟩
    try unfold Later
    try simp only [(id F_rCkC), seval, cGrp, h1, h2, h0, hI0, hat0, h3, h4, he, hr, hatc, cClaim, cCls]
    repeat refine ob ?_
    refine awF ?_
    refine awK ?_
    simp only [(id F_rCkC), seval]
    by_cases hp : kk ∈ c.claims.take i0
    ·
     have hIn := rInClass_A ⟨c.est, 0, false, c.claims.take i0⟩ c.est kk (by show (c.claims.take i0).length ≤ _; rw [List.length_take]; omega)
     have hlt9 : (c.claims.take i0).length = i0 := by rw [List.length_take]; omega
     have hpre : List.take i0 (flat cI c.claims) = flat cI (c.claims.take i0) := by
       conv => lhs; rw [← List.take_append_drop i0 c.claims, flat_append]
       rw [List.take_left' (by rw [flat_length cI_len, hlt9]; omega)]
     simp only [cCls, hlt9] at hIn
     have hiv : inC ⟨c.est, 0, false, c.claims.take i0⟩ c.est kk = true := by unfold inC; simp [hp]
     rw [hiv] at hIn
     refine awD (scq [1, 3, 5, 7, 9, 11, 13, 15, 17, 19, 20] .nil) [none, none, none, none, none, none, none, none, none, none, none] ?_
     simp only [(id F_rCkC), seval, cGrp, h1, h2, h0, hI0, hat0, h3, h4, he, hr, hp, cCls, hpre, flat_pure cI_pure, Nat.sub_zero]
     repeat refine ob ?_
     refine ⟨_, hIn, (by first | rfl | simp [allA, pure1, pureCs, pureC, A1.cells, flat_pure cI_pure]), ?_⟩
     try unfold Later
     try simp only [(id F_rCkC), seval, cGrp, h1, h2, h0, hI0, hat0, h3, h4, he, hr, hp, cCls, hpre, flat_pure cI_pure, Nat.sub_zero]
     repeat refine ob ?_
     refine awT ?_
     refine awR [] [none] ?_
     simp only [(id F_rCkC), seval, cGrp, h1, h2, h0, hI0, hat0, h3, h4, he, hr, hp]
     repeat refine ob ?_
     have hR : (ckC g c (clLegs (l.take i))).1 = 12 := by
       have hT : (c.est, kk) ∈ T1 := by rw [hV0_1, List.mem_append]; exact .inr (List.mem_map.2 ⟨kk, hp, rfl⟩)
       rw [hck, ← hL0]; simp [h3, h4, he, hr, hT]
     refine awX ?_
     simp only [(id F_rCkC), seval, hR]
    have hIn := rInClass_A ⟨c.est, 0, false, c.claims.take i0⟩ c.est kk (by show (c.claims.take i0).length ≤ _; rw [List.length_take]; omega)
    have hlt9 : (c.claims.take i0).length = i0 := by rw [List.length_take]; omega
    have hpre : List.take i0 (flat cI c.claims) = flat cI (c.claims.take i0) := by
      conv => lhs; rw [← List.take_append_drop i0 c.claims, flat_append]
      rw [List.take_left' (by rw [flat_length cI_len, hlt9]; omega)]
    simp only [cCls, hlt9] at hIn
    have hiv : inC ⟨c.est, 0, false, c.claims.take i0⟩ c.est kk = false := by unfold inC; simp [hp]
    rw [hiv] at hIn
    refine awD (scq [1, 3, 5, 7, 9, 11, 13, 15, 17, 19, 20] .nil) [none, none, none, none, none, none, none, none, none, none, none] ?_
    simp only [(id F_rCkC), seval, cGrp, h1, h2, h0, hI0, hat0, h3, h4, he, hr, hp, cCls, hpre, flat_pure cI_pure, Nat.sub_zero]
    repeat refine ob ?_
    refine ⟨_, hIn, (by first | rfl | simp [allA, pure1, pureCs, pureC, A1.cells, flat_pure cI_pure]), ?_⟩
    try unfold Later
    try simp only [(id F_rCkC), seval, cGrp, h1, h2, h0, hI0, hat0, h3, h4, he, hr, hp, cCls, hpre, flat_pure cI_pure, Nat.sub_zero]
    repeat refine ob ?_
    refine awF ?_
    refine awK ?_
    simp only [(id F_rCkC), seval]
    refine awR [] [none] ?_
    simp only [(id F_rCkC), seval, cGrp, h1, h2, h0, hI0, hat0, h3, h4, he, hr, hp]
    repeat refine ob ?_
    refine awp_keep [1, 2, 3, 7, 8, 9, 10, 11] [3, 7] ?_
    try unfold Later
    try simp only [(id F_rCkC), seval, cGrp, h1, h2, h0, hI0, hat0, h3, h4, he, hr, hp]
    repeat' first|apply awS|apply awB
    refine awp_loopw (fun n st => ∃ j1 nx, j1 ≤ i ∧ n = i - j1 ∧ (c.est, kk) ∉ clLegs (l.take j1) ∧ st = ⟨mkT [(1, .val (.one (.sh 4 l.length (flat cCls l)))), (2, one (.int .i64 i)), (3, .val (.one (.ptr 3 0 0))), (7, .val (.one (.ptr 7 1 0))), (8, .val (.one (.sh 5 e.claims.length (flat cClaim e.claims)))), (9, one (.int .i64 i0)), (10, one (.int .i64 kk)), (11, one (.int .i64 j1))], mkH [(3, ⟨0, 27, 2, 1, cGrp g⟩), (7, ⟨1, 58, 4, 1, cCls c⟩)], nx, 0⟩) (i) ⟨0, _, by omega, by omega, by simp [clLegs], rfl⟩ ?_
    rintro n1 st ⟨j1, nx1, hj1, rfl, hno, rfl⟩
    by_cases hlt1 : (j1 : Int) < (i : Int)
    ·
     have hjl2 : j1 < l.length := by omega
     have hatj := flat_at cCls_len l j1 hjl2
     have hdn := hll _ (List.getElem_mem hjl2)
     obtain ⟨d, hjg⟩ : ∃ d, l[j1] = d := ⟨_, rfl⟩
     rw [hjg] at hatj hdn
     refine awR [] [none, none, none] ?_
     simp only [(id F_rCkC), seval, cGrp, h1, h2, h0, hI0, hat0, h3, h4, he, hr, hp, hlt1]
     repeat refine ob ?_
     refine awT ?_
     refine awK ?_
     simp only [(id F_rCkC), seval]
     by_cases hq : inC d c.est kk = true
     ·
      have hJ := rInClass_A d c.est kk hdn
      refine awD (scq [1, 3, 5, 7, 9, 11, 13, 14] .nil) [none, none, none, none, none, none, none, none] ?_
      simp only [(id F_rCkC), seval, cGrp, h1, h2, h0, hI0, hat0, h3, h4, he, hr, hp, hlt1, hq, hatj, cCls, flat_pure cI_pure]
      repeat refine ob ?_
      refine ⟨_, hJ, (by first | rfl | simp [allA, pure1, pureCs, pureC, A1.cells, flat_pure cI_pure]), ?_⟩
      try unfold Later
      try simp only [(id F_rCkC), seval, cGrp, h1, h2, h0, hI0, hat0, h3, h4, he, hr, hp, hlt1, hq, hatj, cCls, flat_pure cI_pure]
      repeat refine ob ?_
      refine awT ?_
      refine awR [] [none] ?_
      simp only [(id F_rCkC), seval, cGrp, h1, h2, h0, hI0, hat0, h3, h4, he, hr, hp, hlt1, hq]
      repeat refine ob ?_
      have hR : (ckC g c (clLegs (l.take i))).1 = 12 := by
        have hT : (c.est, kk) ∈ T1 := by
         rw [hV0_1, List.mem_append]
         refine .inl ((inCs_iff _ _ _).1 (List.any_eq_true.2 ⟨d, ?_, hq⟩))
         rw [← hjg, List.mem_take_iff_getElem]; exact ⟨j1, by omega, rfl⟩
        rw [hck, ← hL0]; simp [h3, h4, he, hr, hT]
      refine awX ?_
      simp only [(id F_rCkC), seval, hR]
     have hJ := rInClass_A d c.est kk hdn
     refine awD (scq [1, 3, 5, 7, 9, 11, 13, 14] .nil) [none, none, none, none, none, none, none, none] ?_
     simp only [(id F_rCkC), seval, cGrp, h1, h2, h0, hI0, hat0, h3, h4, he, hr, hp, hlt1, hq, hatj, cCls, flat_pure cI_pure]
     repeat refine ob ?_
     refine ⟨_, hJ, (by first | rfl | simp [allA, pure1, pureCs, pureC, A1.cells, flat_pure cI_pure]), ?_⟩
     try unfold Later
     try simp only [(id F_rCkC), seval, cGrp, h1, h2, h0, hI0, hat0, h3, h4, he, hr, hp, hlt1, hq, hatj, cCls, flat_pure cI_pure]
     repeat refine ob ?_
     refine awF ?_
     refine awK ?_
     simp only [(id F_rCkC), seval]
     refine awR [] [none, none, none] ?_
     simp only [(id F_rCkC), seval, cGrp, h1, h2, h0, hI0, hat0, h3, h4, he, hr, hp, hlt1, hq]
     repeat refine ob ?_
     repeat refine ob ?_
     refine ⟨_, wk_keep [1, 2, 3, 7, 8, 9, 10, 11] [3, 7], i - (j1 + 1), by omega, j1 + 1, ?na37, by omega, rfl, ?nm37, ?st37⟩
     case st37 => (simp only [(id F_rCkC), seval]; first | rfl | (simp; done))
     case nm37 =>
      rw [List.take_succ_eq_append_getElem (by omega), hjg]
      simp only [clLegs, List.map_append, List.flatten_append, List.mem_append, List.map_cons, List.map_nil, List.flatten_cons, List.flatten_nil, List.append_nil]
      rintro (h | h)
      ·
       exact hno h
      exact hq ((inC_iff _ _ _).2 h)
    obtain rfl : j1 = i := by omega
    have hT : (c.est, kk) ∉ T1 := by
      rw [hV0_1, List.mem_append]
      rintro (h | h)
      ·
       exact hno h
      obtain ⟨z, hz, hze⟩ := List.mem_map.1 h
      have hzk : z = kk := (Prod.mk.inj hze).2
      exact hp (hzk ▸ hz)
    refine awR [] [none, none, none] ?_
    simp only [(id F_rCkC), seval, cGrp, h1, h2, h0, hI0, hat0, h3, h4, he, hr, hp, hlt1, hT]
    repeat refine ob ?_
    refine awF ?_
    refine awQ ?_
    simp only [(id F_rCkC), seval]
    refine awR [] [none, none, none] ?_
    simp only [(id F_rCkC), seval, cGrp, h1, h2, h0, hI0, hat0, h3, h4, he, hr, hp, hlt1, hT]
    repeat refine ob ?_
    repeat refine ob ?_
    refine ⟨_, wk_keep [1, 2, 3, 7, 8, 9] [3, 7], c.claims.length - (i0 + 1), by omega, i0 + 1, (T1 ++ [(c.est, kk)]), ?a39_nx, by omega, rfl, ?i39_0, ?i39_1, ?st39⟩
    case st39 => (simp only [(id F_rCkC), seval, cGrp, h1, h2, h0, hI0, hat0, h3, h4, he, hr, hp, hlt1, hT]; first | rfl | (simp [h1, h2, h0, hI0, hat0, h3, h4, he, hr, hp, hlt1, hT, Nat.add_mul]; done))
    case i39_0 => (first | exact hL0 | (rw [← hL0]; simp [h3, h4, he, hr, hT]))
    case i39_1 => (first | omega | assumption | (simp; omega) | (simp_all; done))
   refine awD (scq [1, 3, 5, 7, 8, 11, 13, 15, 17, 19, 21, 23, 25, 27, 29, 31] .nil) [none, none, none, none, none, none, none, some (64, false), some (64, false), some (64, false), some (64, false), some (64, false), some (64, false), some (64, false), some (64, false), none] ?_
   simp only [(id F_rCkC), seval, cGrp, h1, h2, h0, hI0, hat0, h3, h4, he, hr, hatc, cClaim, cCls]
   repeat refine ob ?_
   refine ⟨_, (hE _), (by first | rfl | simp [allA, pure1, pureCs, pureC, A1.cells, flat_pure cI_pure]), ?_⟩
   try unfold Later
   try simp only [(id F_rCkC), seval, cGrp, h1, h2, h0, hI0, hat0, h3, h4, he, hr, hatc, cClaim, cCls]
   repeat refine ob ?_
   refine awT ?_
   refine awR [] [none] ?_
   simp only [(id F_rCkC), seval, cGrp, h1, h2, h0, hI0, hat0, h3, h4, he, hr]
   repeat refine ob ?_
   have hR : (ckC g c (clLegs (l.take i))).1 = 13 := by rw [hck, ← hL0]; simp [h3, h4, he, hr]
   refine awX ?_
   simp only [(id F_rCkC), seval, hR]
  refine awD (scq [1, 3, 5, 7, 8, 11, 13, 15, 17, 19, 21, 23, 25, 27, 29, 31] .nil) [none, none, none, none, none, none, none, some (64, false), some (64, false), some (64, false), some (64, false), some (64, false), some (64, false), some (64, false), some (64, false), none] ?_
  simp only [(id F_rCkC), seval, cGrp, h1, h2, h0, hI0, hat0, h3, h4, he, hatc, cClaim, cCls]
  repeat refine ob ?_
  refine ⟨_, (hE _), (by first | rfl | simp [allA, pure1, pureCs, pureC, A1.cells, flat_pure cI_pure]), ?_⟩
  try unfold Later
  try simp only [(id F_rCkC), seval, cGrp, h1, h2, h0, hI0, hat0, h3, h4, he, hatc, cClaim, cCls]
  repeat refine ob ?_
  refine awT ?_
  refine awR [] [none] ?_
  simp only [(id F_rCkC), seval, cGrp, h1, h2, h0, hI0, hat0, h3, h4, he]
  repeat refine ob ?_
  have hR : (ckC g c (clLegs (l.take i))).1 = 13 := by rw [hck, ← hL0]; simp [h3, h4, he]
  refine awX ?_
  simp only [(id F_rCkC), seval, hR]
 obtain rfl : i0 = c.claims.length := by omega
 have hI0 : ¬ (c.claims.length : Int) < (c.claims.length : Int) := by omega
 rw [List.drop_length] at hL0
 simp only [ckL] at hL0
 refine awR [] [none, none, none, none, none] ?_
 simp only [(id F_rCkC), seval, cGrp, h1, h2, h0, hI0, cCls]
 repeat refine ob ?_
 refine awF ?_
 refine awQ ?_
 simp only [(id F_rCkC), seval]
 refine awR [] [none] ?_
 simp only [(id F_rCkC), seval, cGrp, h1, h2, h0, hI0]
 repeat refine ob ?_
 have hR : (ckC g c (clLegs (l.take i))).1 = 0 := by rw [hck, ← hL0]
 refine awX ?_
 simp only [(id F_rCkC), seval, hR]
def F_rCkA := And.intro zS (And.intro tf14 (And.intro tf70 (And.intro tf15 (And.intro tf16 (And.intro tf68 (And.intro tf17 (And.intro tf19 (And.intro tf20 (And.intro tf23 (And.intro tf24 (And.intro tf49 (And.intro tf63 (tf30)))))))))))))
set_option maxRecDepth 100000 in
set_option maxHeartbeats 4000000 in
theorem rCheckA_A (g : GGrp) (l : List GCls) (hg : grpOK2 g) (hng : g.ests.length ≤ 1000000) (hll : ∀ c ∈ l, c.claims.length ≤ 9223372036854775807) (hl1 : l.length ≤ 1000000000000) (hcl : ∀ e ∈ g.ests, e.claims.length ≤ 1000000 ∧ ∀ c ∈ e.claims, bigOK c.amount) : ACall Tryz.prog 19 [.agg (cGrp g), .one (.sh 4 l.length (flat cCls l))] (one (.int .i64 (ckR (cgSpec g) g l))) := by
 refine acall_of Tryz.func19 rfl (by decide) (N := 80) rfl (by simp) (R := [.tmp 4]) rfl fun en k0 => ?_
 refine awR [] [none, none] ?_
 simp only [(id F_rCkA), seval, cGrp]
 repeat refine ob ?_
 have hG := rGroup_A g hg
 refine awR [] [none, none, none] ?_
 simp only [(id F_rCkA), seval, cGrp, flat_pure cEst_pure, flat_pure cDebt_pure]
 repeat refine ob ?_
 refine ⟨_, hG, (by first | rfl | simp [allA, pure1, pureCs, pureC, A1.cells, flat_pure cI_pure]), ?_⟩
 try unfold Later
 try simp only [(id F_rCkA), seval, cGrp, flat_pure cEst_pure, flat_pure cDebt_pure]
 repeat refine ob ?_
 by_cases hg0 : cgSpec g = 0
 ·
  refine awR [] [none, none] ?_
  simp only [(id F_rCkA), seval, cGrp, hg0]
  repeat refine ob ?_
  refine awF ?_
  refine awK ?_
  simp only [(id F_rCkA), seval]
  by_cases h64 : (64 : Int) < (l.length : Int)
  ·
   refine awR [] [none, none, none] ?_
   simp only [(id F_rCkA), seval, cGrp, hg0, h64]
   repeat refine ob ?_
   refine awT ?_
   refine awR [] [none] ?_
   simp only [(id F_rCkA), seval, cGrp, hg0, h64]
   repeat refine ob ?_
   refine awX ?_
   have hR : ckR (cgSpec g) g l = 2 := by unfold ckR; rw [if_pos hg0, if_pos h64]
   rw [hg0] at hR
   simp only [(id F_rCkA), seval, hR]
  refine awR [] [none, none, none] ?_
  simp only [(id F_rCkA), seval, cGrp, hg0, h64]
  repeat refine ob ?_
  refine awF ?_
  refine awK ?_
  simp only [(id F_rCkA), seval]
  refine awR [] [none] ?_
  simp only [(id F_rCkA), seval, cGrp, hg0, h64]
  repeat refine ob ?_
  refine awp_keep [1, 2, 6] [2] ?_
  try unfold Later
  try simp only [(id F_rCkA), seval, cGrp, hg0, h64]
  repeat' first|apply awS|apply awB
  refine awp_loopw (fun n st => ∃ i0 nx, i0 ≤ l.length ∧ n = l.length - i0 ∧ ckN g l (l.drop i0) i0 = ckN g l l 0 ∧ st = ⟨mkT [(1, .val (.one (.sh 4 l.length (flat cCls l)))), (2, .val (.one (.ptr 2 0 0))), (6, one (.int .i64 i0))], mkH [(2, ⟨0, 27, 2, 1, cGrp g⟩)], nx, 0⟩) (l.length) ⟨0, _, by omega, by omega, by rfl, rfl⟩ ?_
  rintro n0 st ⟨i0, nx0, hk0, rfl, hL0, rfl⟩
  by_cases hlt0 : i0 < l.length
  ·
   have hI0 : (i0 : Int) < (l.length : Int) := by omega
   rw [List.drop_eq_getElem_cons hlt0] at hL0
   have hW := rCheckC_A g l i0 hlt0 hng hll hl1 hcl
   generalize l[i0] = c at *
   simp only [ckN] at hL0
   refine awR [] [none, none, none, none] ?_
   simp only [(id F_rCkA), seval, cGrp, hg0, h64, hI0]
   repeat refine ob ?_
   refine awT ?_
   refine awK ?_
   simp only [(id F_rCkA), seval]
   refine awR [] [none, none, none, none, none] ?_
   simp only [(id F_rCkA), seval, cGrp, hg0, h64, hI0, flat_pure cEst_pure, flat_pure cDebt_pure, flat_pure cCls_pure]
   repeat refine ob ?_
   refine ⟨_, hW, (by first | rfl | simp [allA, pure1, pureCs, pureC, A1.cells, flat_pure cI_pure]), ?_⟩
   try unfold Later
   try simp only [(id F_rCkA), seval, cGrp, hg0, h64, hI0, flat_pure cEst_pure, flat_pure cDebt_pure, flat_pure cCls_pure]
   repeat refine ob ?_
   by_cases hc0 : (ckC g c (clLegs (l.take i0))).1 = 0
   ·
    refine awR [] [none, none] ?_
    simp only [(id F_rCkA), seval, cGrp, hg0, h64, hI0, hc0]
    repeat refine ob ?_
    refine awF ?_
    refine awK ?_
    simp only [(id F_rCkA), seval]
    refine awR [] [none, none, none] ?_
    simp only [(id F_rCkA), seval, cGrp, hg0, h64, hI0, hc0]
    repeat refine ob ?_
    repeat refine ob ?_
    refine ⟨_, wk_keep [1, 2, 6] [2], l.length - (i0 + 1), by omega, i0 + 1, ?a12_nx, by omega, rfl, ?i12_0, ?st12⟩
    case st12 => (simp only [(id F_rCkA), seval, cGrp, hg0, h64, hI0, hc0]; first | rfl | (simp [hg0, h64, hI0, hc0, Nat.add_mul]; done))
    case i12_0 => (first | exact hL0 | (rw [← hL0]; simp only [reduceIte, hg0, h64, hI0, hc0]; done) | (rw [← hL0]; simp [hg0, h64, hI0, hc0]; done) | (simp [hg0, h64, hI0, hc0] at hL0; simpa using hL0) | (rw [← hL0]; simp [*]; done))
   refine awR [] [none, none] ?_
   simp only [(id F_rCkA), seval, cGrp, hg0, h64, hI0, hc0]
   repeat refine ob ?_
   refine awT ?_
   refine awR [] [none, none] ?_
   simp only [(id F_rCkA), seval, cGrp, hg0, h64, hI0, hc0]
   repeat refine ob ?_
   have hR : ckR (cgSpec g) g l = (ckC g c (clLegs (l.take i0))).1 := by
     unfold ckR
     rw [if_pos hg0, if_neg h64, ← hL0]
     simp [hc0]
   rw [hg0] at hR
   refine awX ?_
   simp only [(id F_rCkA), seval, hR]
  obtain rfl : i0 = l.length := by omega
  have hI0 : ¬ (l.length : Int) < (l.length : Int) := by omega
  rw [List.drop_length] at hL0
  simp only [ckN] at hL0
  refine awR [] [none, none, none, none] ?_
  simp only [(id F_rCkA), seval, cGrp, hg0, h64, hI0]
  repeat refine ob ?_
  refine awF ?_
  refine awQ ?_
  simp only [(id F_rCkA), seval]
  refine awR [] [none] ?_
  simp only [(id F_rCkA), seval, cGrp, hg0, h64, hI0]
  repeat refine ob ?_
  refine awp_keep [1, 2, 8] [2] ?_
  try unfold Later
  try simp only [(id F_rCkA), seval, cGrp, hg0, h64, hI0]
  repeat' first|apply awS|apply awB
  refine awp_loopw (fun n st => ∃ i1 nx, i1 ≤ g.ests.length ∧ n = g.ests.length - i1 ∧ nnE (clLegs l) (g.ests.drop i1) i1 = nnE (clLegs l) g.ests 0 ∧ st = ⟨mkT [(1, .val (.one (.sh 4 l.length (flat cCls l)))), (2, .val (.one (.ptr 2 0 0))), (8, one (.int .i64 i1))], mkH [(2, ⟨0, 27, 2, 1, cGrp g⟩)], nx, 0⟩) (g.ests.length) ⟨0, _, by omega, by omega, by rfl, rfl⟩ ?_
  rintro n1 st ⟨i1, nx1, hk1, rfl, hL1, rfl⟩
  by_cases hlt1 : i1 < g.ests.length
  ·
   have hI1 : (i1 : Int) < (g.ests.length : Int) := by omega
   have hat1 := flat_at cEst_len g.ests i1 hlt1
   try rw [Nat.mul_one] at hat1
   rw [List.drop_eq_getElem_cons hlt1] at hL1
   have hes := hcl _ (List.getElem_mem hlt1)
   generalize g.ests[i1] = e at *
   simp only [nnE] at hL1
   refine awR [] [none, none, none, none, none] ?_
   simp only [(id F_rCkA), seval, cGrp, hg0, h64, hI0, hI1, hat1]
   repeat refine ob ?_
   refine awT ?_
   refine awK ?_
   simp only [(id F_rCkA), seval]
   refine awR [] [none] ?_
   simp only [(id F_rCkA), seval, cGrp, hg0, h64, hI0, hI1, hat1]
   repeat refine ob ?_
   refine awp_keep [1, 2, 8, 9] [2] ?_
   try unfold Later
   try simp only [(id F_rCkA), seval, cGrp, hg0, h64, hI0, hI1, hat1]
   repeat' first|apply awS|apply awB
   refine awp_loopw (fun n st => ∃ i2 nx, i2 ≤ e.claims.length ∧ n = e.claims.length - i2 ∧ nnC (clLegs l) i1 (e.claims.drop i2) i2 = nnC (clLegs l) i1 e.claims 0 ∧ st = ⟨mkT [(1, .val (.one (.sh 4 l.length (flat cCls l)))), (2, .val (.one (.ptr 2 0 0))), (8, one (.int .i64 i1)), (9, one (.int .i64 i2))], mkH [(2, ⟨0, 27, 2, 1, cGrp g⟩)], nx, 0⟩) (e.claims.length) ⟨0, _, by omega, by omega, by rfl, rfl⟩ ?_
   rintro n2 st ⟨i2, nx2, hk2, rfl, hL2, rfl⟩
   by_cases hlt2 : i2 < e.claims.length
   ·
    have hI2 : (i2 : Int) < (e.claims.length : Int) := by omega
    have hat2 := flat_at cClaim_len e.claims i2 hlt2
    try rw [Nat.mul_one] at hat2
    rw [List.drop_eq_getElem_cons hlt2] at hL2
    have hE := rElig_A e.claims[i2] (bigOK_rat (r := e.claims[i2].amount) (hes.2 _ (List.getElem_mem hlt2)))
    simp only [cClaim] at hE
    generalize e.claims[i2] = y at *
    simp only [nnC] at hL2
    refine awR [] [none, none, none, none, none, none, none, none, none] ?_
    simp only [(id F_rCkA), seval, cGrp, hg0, h64, hI0, hI1, hat1, hI2, hat2, hat1, cEst]
    repeat refine ob ?_
    refine awT ?_
    refine awK ?_
    simp only [(id F_rCkA), seval]
    refine awR [] [none, none, none, none, none, none, none, none, none, none, none, none] ?_
    simp only [(id F_rCkA), seval, cGrp, hg0, h64, hI0, hI1, hat1, hI2, hat2, hat1, cEst, hat2, cClaim]
    repeat refine ob ?_
    refine ⟨_, hE, (by first | rfl | simp [allA, pure1, pureCs, pureC, A1.cells, flat_pure cI_pure]), ?_⟩
    try unfold Later
    try simp only [(id F_rCkA), seval, cGrp, hg0, h64, hI0, hI1, hat1, hI2, hat2, hat1, cEst, hat2, cClaim]
    repeat refine ob ?_
    obtain ⟨nb9, hnb9⟩ : ∃ b, b = !elB y := ⟨_, rfl⟩
    simp only [← hnb9]
    refine awR [] [none] ?_
    simp only [(id F_rCkA), seval, cGrp, hg0, h64, hI0, hI1, hat1, hI2, hat2]
    repeat refine ob ?_
    refine awp_keep [1, 2, 8, 9, 10, 11] [2] ?_
    try unfold Later
    try simp only [(id F_rCkA), seval, cGrp, hg0, h64, hI0, hI1, hat1, hI2, hat2]
    repeat' first|apply awS|apply awB
    refine awp_loopw (fun n st => ∃ j3 nx mb, j3 ≤ l.length ∧ n = l.length - j3 ∧ mb = ((!elB y) || inCs (l.take j3) i1 i2) ∧ st = ⟨mkT [(1, .val (.one (.sh 4 l.length (flat cCls l)))), (2, .val (.one (.ptr 2 0 0))), (8, one (.int .i64 i1)), (9, one (.int .i64 i2)), (10, one (.bool mb)), (11, one (.int .i64 j3))], mkH [(2, ⟨0, 27, 2, 1, cGrp g⟩)], nx, 0⟩) (l.length) ⟨0, _, nb9, by omega, by omega, by rw [hnb9]; simp [inCs], rfl⟩ ?_
    rintro n3 st ⟨j3, nx3, mb, hj3, rfl, hmv, rfl⟩
    by_cases hlt3 : (j3 : Int) < (l.length : Int)
    ·
     have hjl : j3 < l.length := by omega
     have hatj := flat_at cCls_len l j3 hjl
     have hdn := hll _ (List.getElem_mem hjl)
     obtain ⟨d, hjg⟩ : ∃ d, l[j3] = d := ⟨_, rfl⟩
     rw [hjg] at hatj hdn
     refine awR [] [none, none, none, none] ?_
     simp only [(id F_rCkA), seval, cGrp, hg0, h64, hI0, hI1, hat1, hI2, hat2, hlt3]
     repeat refine ob ?_
     refine awT ?_
     refine awK ?_
     simp only [(id F_rCkA), seval]
     by_cases hmb : mb = true
     ·
      have hJ := rInClass_A d i1 i2 hdn
      refine awR [] [none, none, some (69, false), some (69, false), some (69, false), some (69, false), some (69, false), some (69, false), some (69, false), none, none] ?_
      simp only [(id F_rCkA), seval, cGrp, hg0, h64, hI0, hI1, hat1, hI2, hat2, hlt3, hmb, hatj, cCls, flat_pure cI_pure]
      repeat refine ob ?_
      refine awR [] [none, none, none] ?_
      simp only [(id F_rCkA), seval, cGrp, hg0, h64, hI0, hI1, hat1, hI2, hat2, hlt3, hmb]
      repeat refine ob ?_
      repeat refine ob ?_
      refine ⟨_, wk_keep [1, 2, 8, 9, 10, 11] [2], l.length - (j3 + 1), by omega, j3 + 1, ?na27, true, by omega, rfl, ?nm27, ?st27⟩
      case st27 => (simp only [(id F_rCkA), seval]; first | rfl | (simp; done))
      case nm27 =>
       rw [List.take_succ_eq_append_getElem hjl]
       simp only [inCs, List.any_append, hjg, List.any_cons, List.any_nil, Bool.or_false]
       simp only [inCs] at hmv
       rw [← Bool.or_assoc, ← hmv, hmb]; rfl
     have hmf : mb = false := by simpa using hmb
     by_cases hq : inC d i1 i2 = true
     ·
      have hJ := rInClass_A d i1 i2 hdn
      refine awR [] [none, none, some (69, false), some (69, false), some (69, false), some (69, false), some (69, false), some (69, false), some (69, false), none, none] ?_
      simp only [(id F_rCkA), seval, cGrp, hg0, h64, hI0, hI1, hat1, hI2, hat2, hlt3, hmb, hmf, hq, hatj, cCls, flat_pure cI_pure]
      repeat refine ob ?_
      refine ⟨_, hJ, (by first | rfl | simp [allA, pure1, pureCs, pureC, A1.cells, flat_pure cI_pure]), ?_⟩
      try unfold Later
      try simp only [(id F_rCkA), seval, cGrp, hg0, h64, hI0, hI1, hat1, hI2, hat2, hlt3, hmb, hmf, hq, hatj, cCls, flat_pure cI_pure]
      repeat refine ob ?_
      refine awR [] [none, none, none] ?_
      simp only [(id F_rCkA), seval, cGrp, hg0, h64, hI0, hI1, hat1, hI2, hat2, hlt3, hmb, hmf, hq]
      repeat refine ob ?_
      repeat refine ob ?_
      refine ⟨_, wk_keep [1, 2, 8, 9, 10, 11] [2], l.length - (j3 + 1), by omega, j3 + 1, ?na30, true, by omega, rfl, ?nm30, ?st30⟩
      case st30 => (simp only [(id F_rCkA), seval]; first | rfl | (simp; done))
      case nm30 =>
       rw [List.take_succ_eq_append_getElem hjl]
       simp only [inCs, List.any_append, hjg, List.any_cons, List.any_nil, Bool.or_false]
       simp only [inCs] at hmv
       rw [← Bool.or_assoc, ← hmv, hmf, hq]; rfl
     have hqf : inC d i1 i2 = false := by simpa using hq
     have hJ := rInClass_A d i1 i2 hdn
     refine awR [] [none, none, some (69, false), some (69, false), some (69, false), some (69, false), some (69, false), some (69, false), some (69, false), none, none] ?_
     simp only [(id F_rCkA), seval, cGrp, hg0, h64, hI0, hI1, hat1, hI2, hat2, hlt3, hmb, hmf, hq, hqf, hatj, cCls, flat_pure cI_pure]
     repeat refine ob ?_
     refine ⟨_, hJ, (by first | rfl | simp [allA, pure1, pureCs, pureC, A1.cells, flat_pure cI_pure]), ?_⟩
     try unfold Later
     try simp only [(id F_rCkA), seval, cGrp, hg0, h64, hI0, hI1, hat1, hI2, hat2, hlt3, hmb, hmf, hq, hqf, hatj, cCls, flat_pure cI_pure]
     repeat refine ob ?_
     refine awR [] [none, none, none] ?_
     simp only [(id F_rCkA), seval, cGrp, hg0, h64, hI0, hI1, hat1, hI2, hat2, hlt3, hmb, hmf, hq, hqf]
     repeat refine ob ?_
     repeat refine ob ?_
     refine ⟨_, wk_keep [1, 2, 8, 9, 10, 11] [2], l.length - (j3 + 1), by omega, j3 + 1, ?na33, false, by omega, rfl, ?nm33, ?st33⟩
     case st33 => (simp only [(id F_rCkA), seval]; first | rfl | (simp; done))
     case nm33 =>
      rw [List.take_succ_eq_append_getElem hjl]
      simp only [inCs, List.any_append, hjg, List.any_cons, List.any_nil, Bool.or_false]
      simp only [inCs] at hmv
      rw [← Bool.or_assoc, ← hmv, hmf, hqf]; rfl
    obtain rfl : j3 = l.length := by omega
    rw [List.take_length] at hmv
    refine awR [] [none, none, none, none] ?_
    simp only [(id F_rCkA), seval, cGrp, hg0, h64, hI0, hI1, hat1, hI2, hat2, hlt3]
    repeat refine ob ?_
    refine awF ?_
    refine awQ ?_
    simp only [(id F_rCkA), seval]
    by_cases hmm : mb = true
    ·
     refine awR [] [none, none] ?_
     simp only [(id F_rCkA), seval, cGrp, hg0, h64, hI0, hI1, hat1, hI2, hat2, hlt3, hmm]
     repeat refine ob ?_
     refine awF ?_
     refine awK ?_
     simp only [(id F_rCkA), seval]
     refine awR [] [none, none, none] ?_
     simp only [(id F_rCkA), seval, cGrp, hg0, h64, hI0, hI1, hat1, hI2, hat2, hlt3, hmm]
     repeat refine ob ?_
     repeat refine ob ?_
     refine ⟨_, wk_keep [1, 2, 8, 9] [2], e.claims.length - (i2 + 1), by omega, i2 + 1, ?a36_nx, by omega, rfl, ?i36_0, ?st36⟩
     case st36 => (simp only [(id F_rCkA), seval, cGrp, hg0, h64, hI0, hI1, hat1, hI2, hat2, hlt3, hmm]; first | rfl | (simp [hg0, h64, hI0, hI1, hat1, hI2, hat2, hlt3, hmm, Nat.add_mul]; done))
     case i36_0 => (rw [← hL2]; exact (nn_step (fun hel => (inCs_iff l i1 i2).1 (by rw [hel, hmm] at hmv; simpa using hmv.symm))).symm)
    have hmmf : mb = false := by simpa using hmm
    refine awR [] [none, none] ?_
    simp only [(id F_rCkA), seval, cGrp, hg0, h64, hI0, hI1, hat1, hI2, hat2, hlt3, hmm, hmmf]
    repeat refine ob ?_
    refine awT ?_
    refine awR [] [none] ?_
    simp only [(id F_rCkA), seval, cGrp, hg0, h64, hI0, hI1, hat1, hI2, hat2, hlt3, hmm, hmmf]
    repeat refine ob ?_
    rw [hmmf] at hmv
    obtain ⟨hel, hinf⟩ := nn_no hmv
    have hin : ((i1 : Int), (i2 : Int)) ∉ clLegs l := fun h => by rw [(inCs_iff l i1 i2).2 h] at hinf; cases hinf
    rw [← hL2] at hL1
    have hR : ckR (cgSpec g) g l = 45 := by
      unfold ckR
      rw [if_pos hg0, if_neg h64, ← hL0]
      simp only [hel, hin, if_true, if_false] at hL1
      simp [← hL1]
    rw [hg0] at hR
    refine awX ?_
    simp only [(id F_rCkA), seval, hR]
   obtain rfl : i2 = e.claims.length := by omega
   have hI2 : ¬ (e.claims.length : Int) < (e.claims.length : Int) := by omega
   rw [List.drop_length] at hL2
   simp only [nnC] at hL2
   refine awR [] [none, none, none, none, none, none, none, none, none] ?_
   simp only [(id F_rCkA), seval, cGrp, hg0, h64, hI0, hI1, hat1, hI2, hat1, cEst]
   repeat refine ob ?_
   refine awF ?_
   refine awQ ?_
   simp only [(id F_rCkA), seval]
   refine awR [] [none, none, none] ?_
   simp only [(id F_rCkA), seval, cGrp, hg0, h64, hI0, hI1, hat1, hI2]
   repeat refine ob ?_
   repeat refine ob ?_
   refine ⟨_, wk_keep [1, 2, 8] [2], g.ests.length - (i1 + 1), by omega, i1 + 1, ?a42_nx, by omega, rfl, ?i42_0, ?st42⟩
   case st42 => (simp only [(id F_rCkA), seval, cGrp, hg0, h64, hI0, hI1, hat1, hI2]; first | rfl | (simp [hg0, h64, hI0, hI1, hat1, hI2, Nat.add_mul]; done))
   case i42_0 => (first | exact hL1 | (rw [← hL2] at hL1; simpa using hL1) | (rw [← hL1, ← hL2]; simp))
  obtain rfl : i1 = g.ests.length := by omega
  have hI1 : ¬ (g.ests.length : Int) < (g.ests.length : Int) := by omega
  rw [List.drop_length] at hL1
  simp only [nnE] at hL1
  refine awR [] [none, none, none, none, none] ?_
  simp only [(id F_rCkA), seval, cGrp, hg0, h64, hI0, hI1]
  repeat refine ob ?_
  refine awF ?_
  refine awQ ?_
  simp only [(id F_rCkA), seval]
  refine awR [] [none] ?_
  simp only [(id F_rCkA), seval, cGrp, hg0, h64, hI0, hI1]
  repeat refine ob ?_
  have hR : ckR (cgSpec g) g l = 0 := by
    unfold ckR
    rw [if_pos hg0, if_neg h64, ← hL0]
    simp [← hL1]
  rw [hg0] at hR
  refine awX ?_
  simp only [(id F_rCkA), seval, hR]
 refine awR [] [none, none] ?_
 simp only [(id F_rCkA), seval, cGrp, hg0]
 repeat refine ob ?_
 refine awT ?_
 refine awR [] [none, none] ?_
 simp only [(id F_rCkA), seval, cGrp, hg0]
 repeat refine ob ?_
 refine awX ?_
 have hR : ckR (cgSpec g) g l = cgSpec g := by unfold ckR; rw [if_neg hg0]
 simp only [(id F_rCkA), seval, hR]
end Go.Proofs.YtpdmlemknomoeaaGreatDoor
