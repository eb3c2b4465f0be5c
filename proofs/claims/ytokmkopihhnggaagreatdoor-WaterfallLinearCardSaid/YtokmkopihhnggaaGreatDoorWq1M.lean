/- Plain: the members of an agreement in their order; the claims of an agreement counted. No walk. -/
import Derived.Test.YtokmkopihhnggaaGreatDoorWp4M
import Derived.Test.YtokmkopihhnggaaGreatDoorRw6M
import Derived.Test.YtokmkopihhnggaaGreatDoorWp7M
import Derived.Test.YtokmkopihhnggaaGreatDoorOw4M
set_option linter.unusedVariables false
set_option linter.unusedSimpArgs false
set_option linter.defProp false
namespace Go.Proofs.YtokmkopihhnggaaGreatDoor
open Go Go.RowKit
def rMs (a : GAgr) : Nat → Nat → List Int
 | 0, _ => []
 | n + 1, i => if mbA (i : Int) a = true then (i : Int) :: rMs a n (i + 1) else rMs a n (i + 1)
theorem rMs_mem (a : GAgr) : ∀ (n i : Nat) (c : Int), c ∈ rMs a n i ↔ (i : Int) ≤ c ∧ c < ((i + n : Nat) : Int) ∧ mbA c a = true
 | 0, i, c => by simp [rMs]; omega
 | n + 1, i, c => by
  have h1 := rMs_mem a n (i + 1) c
  rw [rMs]
  by_cases hc : c = (i : Int)
  ·subst hc
   split
   ·rename_i h; simp [h]; omega
   rename_i h; rw [h1]; simp [h]
  split
  ·rw [List.mem_cons, h1]
   constructor
   ·rintro (h | h)
    ·exact absurd h hc
    exact ⟨by omega, by omega, h.2.2⟩
   exact fun h => .inr ⟨by omega, by omega, h.2.2⟩
  rw [h1]
  constructor
  ·exact fun h => ⟨by omega, by omega, h.2.2⟩
  exact fun h => ⟨by omega, by omega, h.2.2⟩
theorem rMs_lt (a : GAgr) : ∀ n i, (rMs a n i).Pairwise (· < ·)
 | 0, _ => .nil
 | n + 1, i => by
  have h1 := rMs_lt a n (i + 1)
  rw [rMs]
  split
  ·refine List.pairwise_cons.2 ⟨fun x hx => ?_, h1⟩
   have := (rMs_mem a n (i + 1) x).1 hx
   omega
  exact h1
theorem cpt_sorted {d : Array Int} (hs : ∀ i j (hi : i < d.size) (hj : j < d.size), i ≤ j → d[i] ≤ d[j]) : ∀ m, m ≤ d.size → (Lib.compactUpTo d m).Pairwise (· ≤ ·)
 | 0, _ => by simp [Lib.compactUpTo]
 | m + 1, hm => by
  have h1 := cpt_sorted hs m (by omega)
  have hlt : m < d.size := by omega
  rw [Lib.compactUpTo_succ]
  split
  ·rw [List.pairwise_append]
   refine ⟨h1, by simp, fun x hx y hy => ?_⟩
   obtain ⟨j, hj, hjm, rfl⟩ := (cpt_sound m (by omega) hs).2 x hx
   simp only [List.mem_singleton] at hy
   subst hy
   rw [getElem!_pos d m hlt]
   exact hs j m hj hlt (by omega)
  rw [List.append_nil]; exact h1
theorem mbA_mem (a : GAgr) (c : Int) (hc : c ≠ -1) : mbA c a = true ↔ c ∈ mem a := by
 rw [mbA_flat, mbT_ids c hc, mem_iff]
 simp
theorem mem_eq {a : GAgr} {n : Nat} (h : ∀ t ∈ a, ∀ x ∈ t, inR n x.claim) : mem a = rMs a n 0 := by
 have hin : ∀ i ∈ mem a, 0 ≤ i ∧ i < (n : Int) := fun i hi => by
  obtain ⟨p, h1, h2, h3⟩ := mem_ids (mem_mem hi)
  obtain ⟨t, ht, hp⟩ := List.mem_flatten.1 h1
  rcases h t ht p hp with h4 | h4
  ·exact absurd h4 h3
  rw [← h2]; exact h4
 refine List.Perm.eq_of_pairwise (le := fun x y => x ≤ y) (fun x y _ _ h1 h2 => Int.le_antisymm h1 h2) (cpt_sorted (sorted_mono _) _ (by simp)) ((rMs_lt a n 0).imp fun h => Int.le_of_lt h) ?_
 refine (List.perm_ext_iff_of_nodup (mem_nodup a) ((rMs_lt a n 0).imp fun h => by omega)).2 fun c => ?_
 rw [rMs_mem]
 constructor
 ·intro hc
  have h1 := hin c hc
  exact ⟨by omega, by omega, (mbA_mem a c (by omega)).2 hc⟩
 intro hc
 exact (mbA_mem a c (by omega)).1 hc.2.2
def xP (i : Int) : GPart := ⟨i, false, gZ⟩
def xC (i : Int) (c : Rat) : GPart := ⟨i, true, enc c⟩
theorem ex_am : (exCl.map fun c => qOf c.amount) = [60, 40] := by simp [exCl, qOf_enc]
theorem ex_ranks : wRanks exCl = [[], [], [(0, 60), (1, 40)], [], [], [], [], []] := by
 simp [wRanks, List.range, List.range.loop, wRk, exCl, qOf_enc]
theorem ex_lay (ags : List GAgr) : wLay (exE ags) = ⟨2, [[], [], [(0, 60), (1, 40)], [], [], [], [], []], ags.map (wPool exCl), 100⟩ := by
 have h1 : wTotal exCl = 100 := by
  have : wTotal exCl = 60 + (40 + 0) := by simp [wTotal, exCl, qOf_enc]
  rw [this]; grind
 unfold wLay exE
 rw [ex_ranks, h1]
 rfl
theorem ex_pool (a : GAgr) (h : ∀ t ∈ a, ∀ x ∈ t, inR 2 x.claim) : wPool exCl a = (rMs a 2 0, (wTiers a [60, 40]).2 ++ [wLast (rMs a 2 0) (wTiers a [60, 40]).1]) := by
 unfold wPool
 rw [ex_am, mem_eq h]
def xB : GAgr := [[xP 1], [xP 0]]
noncomputable def xCC : GAgr := [[xC 1 15], [xP 0]]
noncomputable def xD : GAgr := [[xC (-1) 12], [xP 0, xP 1]]
theorem xB_pool : wPool exCl xB = ([0, 1], [[(1, 40)], [(0, 60)], [(0, 0), (1, 0)]]) := by
 rw [ex_pool xB (by simp [xB, xP, inR])]
 simp [rMs, mbA, mbT, xB, xP, wTiers, wTier, wPart, wLast, Rat.sub_self]
theorem xC_pool : wPool exCl xCC = ([0, 1], [[(1, 15)], [(0, 60)], [(0, 0), (1, 25)]]) := by
 have h1 : qmin 40 15 = 15 := by kernel_rfl
 have h2 : (40 : Rat) - 15 = 25 := by kernel_rfl
 rw [ex_pool xCC (by simp [xCC, xC, xP, inR])]
 simp [rMs, mbA, mbT, xCC, xC, xP, wTiers, wTier, wPart, wLast, qOf_enc, h1, h2, Rat.sub_self]
theorem xD_pool : wPool exCl xD = ([0, 1], [[(-1, 12)], [(0, 60), (1, 40)], [(0, 0), (1, 0)]]) := by
 rw [ex_pool xD (by simp [xD, xC, xP, inR])]
 simp [rMs, mbA, mbT, xD, xC, xP, wTiers, wTier, wPart, wLast, qOf_enc, Rat.sub_self]
theorem exA_del : (wDel (wLay (exE [])) ((50 : Int) : Rat)).cl = [((30 : Int) : Rat), ((20 : Int) : Rat)] := by
 rw [ex_lay]; kernel_rfl
theorem exB_del : (wDel (wLay (exE [xB])) ((50 : Int) : Rat)).cl = [((10 : Int) : Rat), ((40 : Int) : Rat)] := by
 rw [ex_lay, List.map_cons, xB_pool]; kernel_rfl
theorem exC_del : (wDel (wLay (exE [xCC])) ((50 : Int) : Rat)).cl = [((35 : Int) : Rat), ((15 : Int) : Rat)] := by
 rw [ex_lay, List.map_cons, xC_pool]; kernel_rfl
theorem exC_del2 : (wDel (wLay (exE [xCC])) ((95 : Int) : Rat)).cl = [((60 : Int) : Rat), ((35 : Int) : Rat)] := by
 rw [ex_lay, List.map_cons, xC_pool]; kernel_rfl
theorem exD_del : (wDel (wLay (exE [xD])) ((50 : Int) : Rat)).cl = [mkRat 114 5, mkRat 76 5] := by
 rw [ex_lay, List.map_cons, xD_pool]; kernel_rfl
theorem sgn_ok {q : Rat} (h : 0 ≤ q) : ¬ qSgn q < 0 := by
 unfold qSgn
 rw [qCmp_neg_iff]
 grind
def xOK (a : GAgr) : Prop := a.length ≤ 2 ∧ (∀ t ∈ a, t.length ≤ 2) ∧ ∀ t ∈ a, ∀ p ∈ t, (p.claim = -1 ∧ p.capped = true ∨ 0 ≤ p.claim ∧ p.claim < 2) ∧ sB 1 p.cap ∧ 0 ≤ qOf p.cap
theorem xP_ok (i : Int) (h : 0 ≤ i ∧ i < 2) : ((xP i).claim = -1 ∧ (xP i).capped = true ∨ 0 ≤ (xP i).claim ∧ (xP i).claim < 2) ∧ sB 1 (xP i).cap ∧ 0 ≤ qOf (xP i).cap := ⟨.inr h, sB_gZ, by show 0 ≤ qOf gZ; rw [qOf_gZ]; grind⟩
theorem xC_ok (i : Int) (c : Nat) (h : i = -1 ∨ 0 ≤ i ∧ i < 2) (hc : c < 256) : ((xC i ((c : Int) : Rat)).claim = -1 ∧ (xC i ((c : Int) : Rat)).capped = true ∨ 0 ≤ (xC i ((c : Int) : Rat)).claim ∧ (xC i ((c : Int) : Rat)).claim < 2) ∧ sB 1 (xC i ((c : Int) : Rat)).cap ∧ 0 ≤ qOf (xC i ((c : Int) : Rat)).cap :=
 ⟨h.imp (fun h => ⟨h, rfl⟩) id, sB_enc (qB_small c hc), by show 0 ≤ qOf (enc _); rw [qOf_enc]; exact_mod_cast Nat.zero_le c⟩
theorem xB_ok : xOK xB := ⟨by simp [xB], by simp [xB], by
 intro t ht p hp
 simp only [xB, List.mem_cons, List.not_mem_nil, or_false] at ht
 rcases ht with rfl | rfl <;> simp only [List.mem_cons, List.not_mem_nil, or_false] at hp <;> subst hp
 ·exact xP_ok 1 (by decide)
 exact xP_ok 0 (by decide)⟩
theorem xC_okA : xOK xCC := ⟨by simp [xCC], by simp [xCC], by
 intro t ht p hp
 simp only [xCC, List.mem_cons, List.not_mem_nil, or_false] at ht
 rcases ht with rfl | rfl <;> simp only [List.mem_cons, List.not_mem_nil, or_false] at hp <;> subst hp
 ·exact xC_ok 1 15 (by decide) (by decide)
 exact xP_ok 0 (by decide)⟩
theorem xD_ok : xOK xD := ⟨by simp [xD], by simp [xD], by
 intro t ht p hp
 simp only [xD, List.mem_cons, List.not_mem_nil, or_false] at ht
 rcases ht with rfl | rfl <;> simp only [List.mem_cons, List.not_mem_nil, or_false] at hp
 ·subst hp; exact xC_ok (-1) 12 (by decide) (by decide)
 rcases hp with rfl | rfl
 ·exact xP_ok 0 (by decide)
 exact xP_ok 1 (by decide)⟩
theorem ca_zero : ∀ l : List GPart, (∀ p ∈ l, (p.claim = -1 ∧ p.capped = true ∨ 0 ≤ p.claim ∧ p.claim < 2) ∧ 0 ≤ qOf p.cap) → caLoop [false, false] l = 0
 | [], _ => rfl
 | p :: l, h => by
  obtain ⟨h1, h2⟩ := h p (by simp)
  have h3 := sgn_ok h2
  have h4 : ¬ (p.claim ≠ -1 ∧ (p.claim < 0 ∨ (([false, false] : List Bool).length : Int) ≤ p.claim)) := by simp only [List.length_cons, List.length_nil]; omega
  have h5 : ¬ (p.claim = -1 ∧ p.capped = false) := by
   rintro ⟨h6, h7⟩
   rcases h1 with h1 | h1
   ·rw [h1.2] at h7; cases h7
   omega
  have h6 : ¬ (p.claim ≠ -1 ∧ ([false, false] : List Bool).getD p.claim.toNat false = true) := by
   rintro ⟨h7, h8⟩
   rcases h1 with h1 | h1
   ·exact h7 h1.1
   have h9 : p.claim.toNat = 0 ∨ p.claim.toNat = 1 := by omega
   rcases h9 with h9 | h9 <;> rw [h9] at h8 <;> cases h8
  rw [caLoop, if_neg h4, if_neg h5, if_neg (fun h => h3 h.2), if_neg h6]
  exact ca_zero l fun x hx => h x (by simp [hx])
theorem ex_cl : wcClaims exCl = 0 := by
 have h1 : ¬ qSgn 60 < 0 := sgn_ok (by grind)
 have h2 : ¬ qSgn 40 < 0 := sgn_ok (by grind)
 simp [wcClaims, exCl, qOf_enc, h1, h2]
theorem ex_wc (ags : List GAgr) (h : ags.length ≤ 1) (hx : ∀ a ∈ ags, xOK a) : wcSpec (exE ags) = 0 := by
 have h0 : ¬ qSgn (qOf gZ) < 0 := by rw [qOf_gZ]; exact sgn_ok (by grind)
 have h1 : ¬ (24 < (exE ags).claims.length ∨ 12 < (exE ags).agrs.length) := by
  show ¬ (24 < 2 ∨ 12 < ags.length)
  omega
 have h2 : ¬ wcClaims (exE ags).claims ≠ 0 := fun h => h ex_cl
 unfold wcSpec
 rw [if_neg h1, if_neg (show ¬ qSgn (qOf (exE ags).cash) < 0 from h0), if_neg h2]
 show wcAgrs [false, false] ags = 0
 match ags, h, hx with
 | [], _, _ => rfl
 | [a], _, hx =>
  obtain ⟨g1, g2, g3⟩ := hx a (by simp)
  have hc : caSpec a [false, false] = 0 := by
   unfold caSpec
   have h3 : ¬ (24 < a.length ∨ a.any longT = true) := by
    rintro (h | h)
    ·omega
    obtain ⟨t, ht, hl⟩ := List.any_eq_true.1 h
    have := g2 t ht
    unfold longT at hl
    simp only [decide_eq_true_eq] at hl
    omega
   rw [if_neg h3]
   exact ca_zero _ fun p hp => by
    obtain ⟨t, ht, hp⟩ := List.mem_flatten.1 hp
    have := g3 t ht p hp
    exact ⟨this.1, this.2.2⟩
  simp only [wcAgrs, hc, ne_eq, not_true_eq_false, if_false]
theorem sB1_ratOK {r : GRat} (h : sB 1 r) : ratOK r := ⟨Nat.le_trans h.1 (by decide), Nat.le_trans h.2 (by decide)⟩
theorem ex_in (ags : List GAgr) (h : ags.length ≤ 1) (hx : ∀ a ∈ ags, xOK a) : eIn (exE ags) 1 2 24 12 := by
 have hc : ∀ c ∈ (exE ags).claims, sB 1 c.amount := fun c hc => by
  simp only [exE, exCl, List.mem_cons, List.not_mem_nil, or_false] at hc
  rcases hc with rfl | rfl
  ·exact sB_enc (qB_small 60 (by decide))
  exact sB_enc (qB_small 40 (by decide))
 have h2 : (exE ags).claims.length = 2 := rfl
 have hl : (exE ags).agrs.length ≤ 1 := h
 refine ⟨⟨sB1_ratOK sB_gZ, fun c h => sB1_ratOK (hc c h), by omega, fun a ha => ⟨fun t ht => by have := (hx a ha).2.1 t ht; omega, fun p hp => ?_⟩⟩, ⟨sB_gZ, hc, fun a ha t ht p hp => ((hx a ha).2.2 t ht p hp).2.1⟩, by decide, by decide, by omega, by decide, by omega, by decide, by decide, by decide⟩
 obtain ⟨t, ht, hp⟩ := List.mem_flatten.1 hp
 exact sB1_ratOK ((hx a ha).2.2 t ht p hp).2.1
theorem mPos_int (m : Nat) : mPos (enc ((m : Int) : Rat)) = ((m : Int) : Rat) := by
 have h : (0 : Rat) ≤ ((m : Int) : Rat) := by exact_mod_cast Nat.zero_le m
 unfold mPos qmax
 rw [qOf_enc]
 split <;> grind
theorem aRatio (a b : Nat) (ha : a ≤ 9223372036854775807) (hb : b ≤ 9223372036854775807) (hd : 0 < b) : ACall Tryz.prog 40 [.one (.lit (.int .i64 a)), .one (.lit (.int .i64 b))] (.val (.agg (cRat (enc (mkRat (a : Int) b))))) :=
 acall_flat (fnOK_of Tryz.func40 (by decide) (by kernel_rfl)) [.int .i64 a, .int .i64 b] (vRat (enc (mkRat (a : Int) b))) fun w => Ratio_ok a b w ha hb hd
def F33 := And.intro zS (And.intro tf2 (And.intro tf0 (And.intro tf87 (And.intro tf88 (tf5)))))
set_option maxRecDepth 100000 in
set_option maxHeartbeats 4000000 in
theorem awake17_A : ACall Tryz.prog 27 [] (one (.bool true)) := by
 refine acall_of Tryz.func27 rfl (by decide) (N := 65) rfl (by simp) (R := [.tmp 0]) rfl fun en k0 => ?_
 refine awN ?_
 simp only [(id F33), seval]
 repeat refine ob ?_
 refine awN ?_
 simp only [(id F33), seval]
 repeat refine ob ?_
 refine awN ?_
 simp only [(id F33), seval]
 repeat refine ob ?_
 refine awp_pub (t := 2) (by rfl) (by rfl) (by decide) (by rfl) ?_
 simp only [(id F33), seval]
 refine awN ?_
 simp only [(id F33), seval, cRat]
 repeat refine ob ?_
 refine ⟨_, (aIntQ 15 (by decide) (by decide)), rfl, ?_⟩
 try unfold Later
 try simp only [(id F33), seval, cRat]
 repeat refine ob ?_
 refine awp_pub (t := 3) (by rfl) (by rfl) (by decide) (by rfl) ?_
 simp only [(id F33), seval]
 refine awN ?_
 simp only [(id F33), seval, cRat]
 repeat refine ob ?_
 refine ⟨_, (aIntQ 12 (by decide) (by decide)), rfl, ?_⟩
 try unfold Later
 try simp only [(id F33), seval, cRat]
 repeat refine ob ?_
 refine awp_pub (t := 4) (by rfl) (by rfl) (by decide) (by rfl) ?_
 simp only [(id F33), seval]
 refine awN ?_
 simp only [(id F33), seval, cRat, cEst, flat_pure cClaim_pure, flat_pure cAgr_pure]
 repeat refine ob ?_
 refine ⟨_, two_A, rfl, ?_⟩
 try unfold Later
 try simp only [(id F33), seval, cRat, cEst, flat_pure cClaim_pure, flat_pure cAgr_pure]
 repeat refine ob ?_
 refine ⟨_, (aIntQ 30 (by decide) (by decide)), rfl, ?_⟩
 try unfold Later
 try simp only [(id F33), seval, cRat, cEst, flat_pure cClaim_pure, flat_pure cAgr_pure]
 repeat refine ob ?_
 refine ⟨_, (aIntQ 20 (by decide) (by decide)), rfl, ?_⟩
 try unfold Later
 try simp only [(id F33), seval, cRat, cEst, flat_pure cClaim_pure, flat_pure cAgr_pure]
 repeat refine ob ?_
 refine ⟨_, (pays_A (exE []) ((50 : Nat) : Int) (((30 : Int) : Rat)) (((20 : Int) : Rat)) (by decide) (ex_in [] (by simp) (by simp)) (ex_wc [] (by simp) (by simp)) (qB.mono (qB_small 50 (by decide)) (by decide)) (mPos_int 50) rfl exA_del), rfl, ?_⟩
 try unfold Later
 try simp only [(id F33), seval, cRat, cEst, flat_pure cClaim_pure, flat_pure cAgr_pure]
 repeat refine ob ?_
 refine awR [26, 29] [none, none, none, none, none, none, none, none] ?_
 simp only [(id F33), seval, cRat, cEst]
 repeat refine ob ?_
 refine ⟨_, two_I _ _ 25 _ ⟨_, by rfl, rfl⟩ (fun y B h => ?_), ?_⟩
 ·
  by_cases hy : y < 700
  ·
   exact hy
  exfalso
  simp only [up_apply] at h
  repeat rw [if_neg (by omega)] at h
  cases h
 rintro res H' nx' ⟨sx, sy, s2, cs2, rfl, rfl⟩
 simp only [(id F33), seval, (id SD)]
 repeat refine ob ?_
 refine ⟨_, (aIntQ 10 (by decide) (by decide)), rfl, ?_⟩
 try unfold Later
 try simp only [(id F33), seval, cRat, cEst]
 repeat refine ob ?_
 refine ⟨_, (aIntQ 40 (by decide) (by decide)), rfl, ?_⟩
 try unfold Later
 try simp only [(id F33), seval, cRat, cEst]
 repeat refine ob ?_
 refine ⟨_, acallI_borrow (pays_A (exE [xB]) ((50 : Nat) : Int) (((10 : Int) : Rat)) (((40 : Int) : Rat)) (by decide) (ex_in [xB] (by simp) (by simpa using xB_ok)) (ex_wc [xB] (by simp) (by simpa using xB_ok)) (qB.mono (qB_small 50 (by decide)) (by decide)) (mPos_int 50) rfl exB_del) rfl (fun e σ w vs hW hd => ?_), ?_⟩
 ·
  obtain ⟨v1, vs1, rfl, d1, hd1⟩ := den1s_cons hd
  obtain ⟨v2, vs2, rfl, d2, hd2⟩ := den1s_cons hd1
  obtain ⟨v3, vs3, rfl, d3, hd3⟩ := den1s_cons hd2
  obtain ⟨v4, vs4, rfl, d4, hd4⟩ := den1s_cons hd3
  obtain ⟨us, rfl, du⟩ := d1
  exact ⟨⟨us, rfl, exE_read (nt := 25) (na := 10) (n1 := 708) (n2 := 715) (t1 := [xP 1]) (t2 := [xP 0]) hW du (by rfl) (by rfl) (by rfl) (by rfl)⟩, den1_pure kx_all (by rfl) d2, den1_pure kx_all (by rfl) d3, den1_pure kx_all (by rfl) d4, (by cases vs4 with | nil => exact trivial | cons v vs => exact hd4.elim)⟩
 rintro res H' nx' ⟨rfl, rfl, rfl⟩
 simp only [(id F33), seval, (id SD)]
 repeat refine ob ?_
 refine awp_keep [0, 1, 2, 3, 4, 5, 6] [10] ?_
 simp only [(id F33), seval]
 refine awR [33, 36, 41, 44] [none, none, none, none, none, none, none, none, some (37, true), some (37, true), some (37, true), some (37, true), some (37, true), some (37, true), some (37, true), none, none] ?_
 simp only [(id F33), seval, cRat, cEst]
 repeat refine ob ?_
 refine ⟨_, two_I _ _ 32 _ ⟨_, by rfl, rfl⟩ (fun y B h => ?_), ?_⟩
 ·
  by_cases hy : y < 700
  ·
   exact hy
  exfalso
  simp only [up_apply] at h
  repeat rw [if_neg (by omega)] at h
  cases h
 rintro res H' nx' ⟨sx, sy, s2, cs2, rfl, rfl⟩
 simp only [(id F33), seval, (id SD)]
 repeat refine ob ?_
 refine ⟨_, (aIntQ 35 (by decide) (by decide)), rfl, ?_⟩
 try unfold Later
 try simp only [(id F33), seval, cRat, cEst]
 repeat refine ob ?_
 refine ⟨_, (aIntQ 15 (by decide) (by decide)), rfl, ?_⟩
 try unfold Later
 try simp only [(id F33), seval, cRat, cEst]
 repeat refine ob ?_
 refine ⟨_, acallI_borrow (pays_A (exE [xCC]) ((50 : Nat) : Int) (((35 : Int) : Rat)) (((15 : Int) : Rat)) (by decide) (ex_in [xCC] (by simp) (by simpa using xC_okA)) (ex_wc [xCC] (by simp) (by simpa using xC_okA)) (qB.mono (qB_small 50 (by decide)) (by decide)) (mPos_int 50) rfl exC_del) rfl (fun e σ w vs hW hd => ?_), ?_⟩
 ·
  obtain ⟨v1, vs1, rfl, d1, hd1⟩ := den1s_cons hd
  obtain ⟨v2, vs2, rfl, d2, hd2⟩ := den1s_cons hd1
  obtain ⟨v3, vs3, rfl, d3, hd3⟩ := den1s_cons hd2
  obtain ⟨v4, vs4, rfl, d4, hd4⟩ := den1s_cons hd3
  obtain ⟨us, rfl, du⟩ := d1
  exact ⟨⟨us, rfl, exE_read (nt := 32) (na := 10) (n1 := 708) (n2 := 715) (t1 := [xC 1 15]) (t2 := [xP 0]) hW du (by rfl) (by rfl) (by rfl) (by rfl)⟩, den1_pure kx_all (by rfl) d2, den1_pure kx_all (by rfl) d3, den1_pure kx_all (by rfl) d4, (by cases vs4 with | nil => exact trivial | cons v vs => exact hd4.elim)⟩
 rintro res H' nx' ⟨rfl, rfl, rfl⟩
 simp only [(id F33), seval, (id SD)]
 repeat refine ob ?_
 refine ⟨_, two_J _ _ 40 _ ⟨_, by rfl, rfl⟩ (fun y B h => ?_), ?_⟩
 ·
  by_cases hy : y < 800
  ·
   exact hy
  exfalso
  simp only [up_apply] at h
  repeat rw [if_neg (by omega)] at h
  cases h
 rintro res H' nx' ⟨sx, sy, s2, cs2, rfl, rfl⟩
 simp only [(id F33), seval, (id SD)]
 repeat refine ob ?_
 refine ⟨_, (aIntQ 60 (by decide) (by decide)), rfl, ?_⟩
 try unfold Later
 try simp only [(id F33), seval, cRat, cEst]
 repeat refine ob ?_
 refine ⟨_, (aIntQ 35 (by decide) (by decide)), rfl, ?_⟩
 try unfold Later
 try simp only [(id F33), seval, cRat, cEst]
 repeat refine ob ?_
 refine ⟨_, acallI_borrow (pays_A (exE [xCC]) ((95 : Nat) : Int) (((60 : Int) : Rat)) (((35 : Int) : Rat)) (by decide) (ex_in [xCC] (by simp) (by simpa using xC_okA)) (ex_wc [xCC] (by simp) (by simpa using xC_okA)) (qB.mono (qB_small 95 (by decide)) (by decide)) (mPos_int 95) rfl exC_del2) rfl (fun e σ w vs hW hd => ?_), ?_⟩
 ·
  obtain ⟨v1, vs1, rfl, d1, hd1⟩ := den1s_cons hd
  obtain ⟨v2, vs2, rfl, d2, hd2⟩ := den1s_cons hd1
  obtain ⟨v3, vs3, rfl, d3, hd3⟩ := den1s_cons hd2
  obtain ⟨v4, vs4, rfl, d4, hd4⟩ := den1s_cons hd3
  obtain ⟨us, rfl, du⟩ := d1
  exact ⟨⟨us, rfl, exE_read (nt := 40) (na := 10) (n1 := 808) (n2 := 815) (t1 := [xC 1 15]) (t2 := [xP 0]) hW du (by rfl) (by rfl) (by rfl) (by rfl)⟩, den1_pure kx_all (by rfl) d2, den1_pure kx_all (by rfl) d3, den1_pure kx_all (by rfl) d4, (by cases vs4 with | nil => exact trivial | cons v vs => exact hd4.elim)⟩
 rintro res H' nx' ⟨rfl, rfl, rfl⟩
 simp only [(id F33), seval, (id SD)]
 repeat refine ob ?_
 refine awp_keep [0, 1, 2, 3, 4, 5, 6, 7] [10] ?_
 simp only [(id F33), seval]
 refine awR [51, 54] [none, none, none, none, none, none, none, none, none, none] ?_
 simp only [(id F33), seval, cRat, cEst]
 repeat refine ob ?_
 refine ⟨_, two_I _ _ 50 _ ⟨_, by rfl, rfl⟩ (fun y B h => ?_), ?_⟩
 ·
  by_cases hy : y < 700
  ·
   exact hy
  exfalso
  simp only [up_apply] at h
  repeat rw [if_neg (by omega)] at h
  cases h
 rintro res H' nx' ⟨sx, sy, s2, cs2, rfl, rfl⟩
 simp only [(id F33), seval, (id SD)]
 repeat refine ob ?_
 refine ⟨_, (aRatio 114 5 (by decide) (by decide) (by decide)), rfl, ?_⟩
 try unfold Later
 try simp only [(id F33), seval, cRat, cEst]
 repeat refine ob ?_
 refine ⟨_, (aRatio 76 5 (by decide) (by decide) (by decide)), rfl, ?_⟩
 try unfold Later
 try simp only [(id F33), seval, cRat, cEst]
 repeat refine ob ?_
 refine ⟨_, acallI_borrow (pays_A (exE [xD]) ((50 : Nat) : Int) (mkRat 114 5) (mkRat 76 5) (by decide) (ex_in [xD] (by simp) (by simpa using xD_ok)) (ex_wc [xD] (by simp) (by simpa using xD_ok)) (qB.mono (qB_small 50 (by decide)) (by decide)) (mPos_int 50) rfl exD_del) rfl (fun e σ w vs hW hd => ?_), ?_⟩
 ·
  obtain ⟨v1, vs1, rfl, d1, hd1⟩ := den1s_cons hd
  obtain ⟨v2, vs2, rfl, d2, hd2⟩ := den1s_cons hd1
  obtain ⟨v3, vs3, rfl, d3, hd3⟩ := den1s_cons hd2
  obtain ⟨v4, vs4, rfl, d4, hd4⟩ := den1s_cons hd3
  obtain ⟨us, rfl, du⟩ := d1
  exact ⟨⟨us, rfl, exE_read (nt := 50) (na := 49) (n1 := 708) (n2 := 715) (t1 := [xC (-1) 12]) (t2 := [xP 0, xP 1]) hW du (by rfl) (by rfl) (by rfl) (by rfl)⟩, den1_pure kx_all (by rfl) d2, den1_pure kx_all (by rfl) d3, den1_pure kx_all (by rfl) d4, (by cases vs4 with | nil => exact trivial | cons v vs => exact hd4.elim)⟩
 rintro res H' nx' ⟨rfl, rfl, rfl⟩
 simp only [(id F33), seval, (id SD)]
 repeat refine ob ?_
 refine awp_keep [0, 5, 6, 7, 8] [] ?_
 simp only [(id F33), seval]
 refine awR [] [none, none, some (56, true), none, none, some (59, true), none, none, some (62, true), none, none] ?_
 simp only [(id F33), seval]
 repeat refine ob ?_
 refine awX ?_
 (first | (simp only [(id F33), seval]; done) | (simp only [(id F33), seval]; first | (simp []; done)))
def okN (e : GEst) : Prop := sB 1 e.cash ∧ (∀ c ∈ e.claims, sB 1 c.amount ∧ enc (qOf c.amount) = c.amount) ∧ ∀ a ∈ e.agrs, ∀ t ∈ a, ∀ p ∈ t, sB 1 p.cap
theorem okN_zt : okN ztEst := ⟨sB_gZ, by simp [ztEst], by simp [ztEst]⟩
theorem bgN_sB (e : GEst) (p : N3) (h : e.claims.length ≤ 6) : ∀ t ∈ bgN e p, ∀ q ∈ t, sB 1 q.cap := by
 have h1 : tOK (fun q => sB 1 q.cap) (bgT p (bgL e.agrs p e.claims 0 ⟨[], [], []⟩)) := by
  have h2 := bgL_tOK (Q := fun q => sB 1 q.cap) e.agrs p e.claims.length (fun i hi hf => by
   show sB 1 (bgP p i).cap
   unfold bgP
   split
   ·exact sB_enc (qB_small _ (by omega))
   exact sB_gZ) e.claims 0 ⟨[], [], []⟩ (by omega) ⟨by simp, by simp, by simp⟩
  unfold bgT
  split
  ·exact put_tOK _ _ _ h2 (sB_enc (qB_small _ (by omega)))
  exact h2
 intro t ht q hq
 simp only [bgN, List.mem_cons, List.not_mem_nil, or_false] at ht
 rcases ht with rfl | rfl | rfl
 ·exact h1.1 q hq
 ·exact h1.2.1 q hq
 exact h1.2.2 q hq
theorem grpE_okN (n : Nat) (cash : List Nat) (list : List N4) (pools : List N3) : ∀ e ∈ grpE n cash list pools, okB e ∧ okN e := by
 have hz : okB ztEst ∧ okN ztEst := ⟨okB_zt, okN_zt⟩
 refine foldl_ok (Pr := fun e => okB e ∧ okN e) _ (fun es p h => ?_) _ _ fun e he => ?_
 ·unfold addAg
  split
  ·rename_i hlt
   obtain ⟨h0, q0⟩ := getD_ok h hz (p.a % (1 + n % 4))
   have hx := addAg_ok (1 + n % 4) es p fun e he => (h e he).1
   unfold addAg at hx
   rw [if_pos hlt] at hx
   generalize es.getD (p.a % (1 + n % 4)) ztEst = e at *
   refine set_ok h _ ⟨⟨h0.1, by simp only [List.length_append, List.length_cons, List.length_nil]; omega, fun a ha => ?_⟩, q0.1, q0.2.1, fun a ha => ?_⟩
   ·rcases List.mem_append.1 ha with h1 | h1
    ·exact h0.2.2 a h1
    obtain rfl : a = bgN e p := by simpa using h1
    exact bgN_ok e p h0.1
   rcases List.mem_append.1 ha with h1 | h1
   ·exact q0.2.2 a h1
   obtain rfl : a = bgN e p := by simpa using h1
   exact bgN_sB e p h0.1
  exact h
 have hE : ∀ e ∈ list.foldl (addClaim (1 + n % 4)) ((List.range (1 + n % 4)).map (mkEst cash)), okC e ∧ okN e := by
  refine foldl_ok (Pr := fun e => okC e ∧ okN e) _ (fun es x h => ?_) _ _ fun e he => ?_
  ·have hC := addClaim_ok (1 + n % 4) es x fun e he => (h e he).1
   refine fun e he => ⟨hC e he, ?_⟩
   revert e
   unfold addClaim
   split
   ·exact fun e he => (h e he).2
   have h0 := (getD_ok h ⟨⟨by simp [ztEst], rfl⟩, okN_zt⟩ (x.a % (1 + n % 4))).2
   generalize es.getD (x.a % (1 + n % 4)) ztEst = e at *
   refine set_ok (fun e he => (h e he).2) _ ⟨h0.1, fun c hc => ?_, h0.2.2⟩
   rcases List.mem_append.1 hc with h1 | h1
   ·exact h0.2.1 c h1
   obtain rfl : c = mkClaim (1 + n % 4) x := by simpa using h1
   exact ⟨sB_enc (amt_qB _), by show enc (qOf (enc _)) = enc _; rw [qOf_enc]⟩
  obtain ⟨i, _, rfl⟩ := List.mem_map.1 he
  refine ⟨⟨by simp [mkEst], rfl⟩, ?_, by simp [mkEst], by simp [mkEst]⟩
  unfold mkEst
  simp only
  split
  ·exact sB_enc (amt_qB _)
  exact sB_gZ
 obtain ⟨⟨h1, h2⟩, h3⟩ := hE e he
 exact ⟨⟨h1, by rw [h2]; simp, by rw [h2]; simp⟩, h3⟩
noncomputable def estN (c : Nat) (list : List N4) (pools : List N3) : GEst := (grpE 0 [c] list pools).getD 0 ztEst
theorem estN_mem (c : Nat) (list : List N4) (pools : List N3) : estN c list pools ∈ grpE 0 [c] list pools := by
 have h := grpE_len 0 [c] list pools
 unfold estN
 rw [List.getD_eq_getElem?_getD, List.getElem?_eq_getElem (by omega)]
 exact List.getElem_mem _
theorem estN_list (c : Nat) (list : List N4) (pools : List N3) : grpE 0 [c] list pools = [estN c list pools] := by
 have h := grpE_len 0 [c] list pools
 unfold estN
 match hg : grpE 0 [c] list pools, h with
 | [e], _ => rfl
theorem estN_ok (c : Nat) (list : List N4) (pools : List N3) : okB (estN c list pools) ∧ okN (estN c list pools) := grpE_okN _ _ _ _ _ (estN_mem c list pools)
theorem estN_wc (c : Nat) (list : List N4) (pools : List N3) : wcSpec (estN c list pools) = 0 := by
 have h1 := grpE_v 0 [c] list pools
 rw [estN_list] at h1
 have h2 := h1 0 (by simp)
 obtain ⟨h3, _⟩ := estN_ok c list pools
 rw [wc_ce]
 exact ceSpec_zero (by decide) h2 (by have := h3.1; omega) (by have := h3.2.1; omega)
theorem ratOK_sB {r : GRat} (h : sB 1 r) : ratOK r := ⟨Nat.le_trans h.1 (by decide), Nat.le_trans h.2 (by decide)⟩
theorem estN_in (c : Nat) (list : List N4) (pools : List N3) {M : Nat} (h0 : 0 < M) (hM : M ≤ 704000) : eIn (estN c list pools) 1 M 6 2 := by
 obtain ⟨b1, b2, b3⟩ := (estN_ok c list pools).1
 obtain ⟨q1, q2, q3⟩ := (estN_ok c list pools).2
 refine ⟨⟨ratOK_sB q1, fun c hc => ratOK_sB (q2 c hc).1, by omega, fun a ha => ⟨fun t ht => by have := (b3 a ha).2 t ht; omega, fun p hp => ?_⟩⟩, ⟨q1, fun c hc => (q2 c hc).1, q3⟩, by decide, h0, b1, by decide, b2, by decide, by omega, ?_, ?_, ?_⟩
 ·obtain ⟨t, ht, hp⟩ := List.mem_flatten.1 hp
  exact ratOK_sB (q3 a ha t ht p hp)
 ·unfold kG kZ kS; omega
 ·unfold kY kT kK kG kZ kS; omega
 unfold kY kT kK kG kZ kS; omega
theorem estN_eok (c : Nat) (list : List N4) (pools : List N3) : eOK (estN c list pools) := (wc_ok (estN_wc c list pools)).eOK

theorem EqOK_two (a b : GRat) : EqOK Tryz.prog 32 [.bool a.neg, .string a.num, .string a.den] [.bool b.neg, .string b.num, .string b.den] := fun w => ⟨by
 obtain ⟨x, y, z⟩ := a
 obtain ⟨x', y', z'⟩ := b
 have h2 := run_equalIn_agg (P := Tryz.prog) w 9999 32 #[.bool x, .string y, .string z] #[.bool x', .string y', .string z'] (by kernel_rfl) (by kernel_rfl)
 have h3 : (Op.equal 32 (.agg #[.bool x, .string y, .string z]) (.agg #[.bool x', .string y', .string z'])).run Tryz.prog w = (Op.equalIn (9999 + 1) 32 (.agg #[.bool x, .string y, .string z]) (.agg #[.bool x', .string y', .string z'])).run Tryz.prog w := rfl
 have hb := fun (a b : Bool) => run_equalIn_bool' (P := Tryz.prog) w 9998 4 a b (by kernel_rfl)
 have hs : ∀ a b : ByteArray, _ := fun (a b : ByteArray) => (strEq a b) ▸ run_equalIn_string (P := Tryz.prog) w 9998 9 a b (by kernel_rfl)
 have p0 := part_boolW #[.bool x, .string y, .string z] 0 _ rfl w
 have p1 := part_strW #[.bool x, .string y, .string z] 1 _ rfl w
 have p2 := part_strW #[.bool x, .string y, .string z] 2 _ rfl w
 have q0 := part_boolW #[.bool x', .string y', .string z'] 0 _ rfl w
 have q1 := part_strW #[.bool x', .string y', .string z'] 1 _ rfl w
 have q2 := part_strW #[.bool x', .string y', .string z'] 2 _ rfl w
 show (Op.equal 32 (.agg #[.bool x, .string y, .string z]) (.agg #[.bool x', .string y', .string z'])).run Tryz.prog w = _
 rw [h3, h2, rat_fieldsW]
 have n1 : ¬ "Neg" = "_" := by decide
 have n2 : ¬ "Num" = "_" := by decide
 have n3 : ¬ "Den" = "_" := by decide
 by_cases e1 : x = x'
 ·subst e1
  by_cases e2 : y = y'
  ·subst e2
   by_cases e3 : z = z'
   ·subst e3
    simp only [Op.eqFields, ne_eq, n1, n2, n3, not_false_eq_true, if_true, Sem.run_bind, p0, p1, p2, q0, q1, q2, Result.andThen_ok, hb, hs]
    simp [hb, hs, p0, p1, p2, n1, n2, n3, Op.eqFields, eqVs, eqV]
   simp only [Op.eqFields, ne_eq, n1, n2, n3, not_false_eq_true, if_true, Sem.run_bind, p0, p1, p2, q0, q1, q2, Result.andThen_ok, hb, hs]
   simp [hb, hs, p0, p1, p2, q0, q1, q2, n1, n2, n3, Op.eqFields, eqVs, eqV, e3]
  simp only [Op.eqFields, ne_eq, n1, n2, n3, not_false_eq_true, if_true, Sem.run_bind, p0, p1, p2, q0, q1, q2, Result.andThen_ok, hb, hs]
  simp [hb, hs, p0, p1, p2, q0, q1, q2, n1, n2, n3, Op.eqFields, eqVs, eqV, e2]
 simp only [Op.eqFields, ne_eq, n1, n2, n3, not_false_eq_true, if_true, Sem.run_bind, p0, p1, p2, q0, q1, q2, Result.andThen_ok, hb, hs]
 simp [hb, hs, p0, p1, p2, q0, q1, q2, n1, n2, n3, Op.eqFields, eqVs, eqV, e1], by kernel_rfl⟩
theorem eqVs_two (p q : Rat) : eqVs [.bool (enc p).neg, .string (enc p).num, .string (enc p).den] [.bool (enc q).neg, .string (enc q).num, .string (enc q).den] = decide (p = q) := by
 by_cases h : p = q
 ·subst h; simp [eqVs, eqV]
 have h2 : enc p ≠ enc q := fun e => h (enc_inj e)
 have h3 : ¬ ((enc p).neg = (enc q).neg ∧ (enc p).num = (enc q).num ∧ (enc p).den = (enc q).den) := fun ⟨a, b, c⟩ => h2 (by
  generalize enc p = x at *
  generalize enc q = y at *
  obtain ⟨x1, x2, x3⟩ := x
  obtain ⟨y1, y2, y3⟩ := y
  simp only at a b c
  rw [a, b, c])
 simp only [h, decide_false]
 apply Bool.eq_false_iff.2
 intro h4
 simp only [eqVs, eqV, Bool.and_eq_true, beq_iff_eq, decide_eq_true_eq] at h4
 exact h3 (by simpa using h4)
end Go.Proofs.YtokmkopihhnggaaGreatDoor
