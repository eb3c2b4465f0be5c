/- Sums of numbers, the builder of an estate; walked by the abstract machine. -/
import Derived.Test.YtmbahnmhicdjfaaGreatDoorAbUM
import Derived.Test.YtmbahnmhicdjfaaGreatDoorWlaM
import Derived.Test.YtmbahnmhicdjfaaGreatDoorGu3M
import Derived.Test.YtmbahnmhicdjfaaGreatDoorOw4M
set_option linter.unusedVariables false
set_option linter.unusedSimpArgs false
set_option linter.defProp false
set_option linter.unnecessarySimpa false
section
/- Sums of numbers, the builder of an estate; walked by the abstract machine. -/
namespace Go.Proofs.YtmbahnmhicdjfaaGreatDoor
open Go Go.RowKit
theorem aAdd0Q (p q : Rat) (m n : Nat) (hp : qB m p) (hq : qB n q) (hm : m ≤ 100000000000) (hn : n ≤ 100000000000) : ACall Tryz.prog 95 [.agg (cRat (enc p)), .agg (cRat (enc q))] (.val (.agg (cRat (enc (p + q))))) :=
  acall_flat (fnOK_of Tryz.func95 (by decide) (by kernel_rfl)) [vRat (enc p), vRat (enc q)] (vRat (enc (p + q))) fun w => qadd_any p q m n w hp hq hm hn
def F_wSm := And.intro zS (And.intro tf98 (And.intro tf99 (And.intro tf18 (And.intro tf86 (tf87)))))
set_option maxRecDepth 100000 in
set_option maxHeartbeats 4000000 in
theorem aSumQ (l : List Rat) (n9 : Nat) (hn9 : l.length = n9) (G : Nat) (hG : ∀ x ∈ l, qB G x) (hGb : G ≤ 50000000000) (hl : l.length ≤ 1000000) (hB : 1 + l.length * (G + 1) ≤ 50000000000) : ACall Tryz.prog 43 [.one (.sh 3 n9 (flat cQ l))] (.val (.agg (cRat (enc (rSum l))))) := by
 subst hn9
 refine acall_of Tryz.func43 rfl (by decide) (N := 19) rfl (by simp) (R := [.cell 2 32]) rfl fun en k0 => ?_
 refine awR [] [none] ?_
 simp only [(id F_wSm), seval, cRat]
 repeat refine ob ?_
 refine awR [] [none, none, none] ?_
 simp only [(id F_wSm), seval, cRat]
 repeat refine ob ?_
 refine awp_wk (wk_cells 3 (cRat (enc 0)) (by rfl) (by show (3 : Nat) ≠ 0; decide) (by rfl) (fun κ vs h => by rw [enc0_cells]; exact h)) ?_
 simp only [(id F_wSm), seval]
 refine awR [] [none, none, none] ?_
 simp only [(id F_wSm), seval, cRat]
 repeat refine ob ?_
 have hq0 : qB (1 + 0 * (G + 1)) (0 : Rat) := qB_zero.mono (by omega)
 refine awp_keep [2, 3, 7, 8, 9] [2, 3] ?_
 try unfold Later
 try simp only [(id F_wSm), seval, cRat]
 repeat' first|apply awS|apply awB
 refine awp_loopw (fun n st => ∃ i0 q nx, i0 ≤ l.length ∧ n = l.length - i0 ∧ q + rSum (l.drop i0) = 0 + rSum l ∧ qB (1 + i0 * (G + 1)) q ∧ st = ⟨mkT [(2, .val (.one (.ptr 2 0 0))), (3, .val (.one (.ptr 3 1 0))), (7, .val (.one (.sh 3 l.length (flat cQ l)))), (8, one (.int .i64 l.length)), (9, one (.int .i64 i0))], mkH [(2, ⟨0, 32, 3, 1, [.lit (.bool false), .lit (.string bEmpty), .lit (.string bEmpty)]⟩), (3, ⟨1, 32, 3, 1, cRat (enc q)⟩)], nx, 0⟩) (l.length) ⟨0, 0, _, by omega, by omega, by rfl, (by first | omega | assumption | rfl | simp | (simp; omega)), rfl⟩ ?_
 rintro n0 st ⟨i0, q, nx0, hk0, rfl, hL0, hV0_1, rfl⟩
 by_cases hlt0 : i0 < l.length
 ·
  have hI0 : (i0 : Int) < (l.length : Int) := by omega
  have hat0 := flat_at cQ_len l i0 hlt0
  try rw [Nat.mul_one] at hat0
  rw [List.drop_eq_getElem_cons hlt0] at hL0
  have hGx := hG _ (List.getElem_mem hlt0)
  have hVq := hV0_1
  have hmul : (i0 + 1) * (G + 1) ≤ l.length * (G + 1) := Nat.mul_le_mul_right _ hlt0
  have hmul1 : (i0 + 1) * (G + 1) = i0 * (G + 1) + (G + 1) := Nat.succ_mul _ _
  have hnx := (hVq.add hGx).mono (n := 1 + (i0 + 1) * (G + 1)) (by omega)
  generalize l[i0] = x at *
  simp only [rSum] at hL0
  refine awR [] [none] ?_
  simp only [(id F_wSm), seval, cRat, hI0, hat0]
  repeat refine ob ?_
  refine awT ?_
  refine awK ?_
  simp only [(id F_wSm), seval]
  refine awR [] [none, none, none, none] ?_
  simp only [(id F_wSm), seval, cRat, hI0, hat0, cQ]
  repeat refine ob ?_
  have hCl := aCleanQ x G hGx (by omega)
  have hA := aAdd0Q q x _ G hVq hGx (by omega) (by omega)
  simp only [cRat] at hA hCl
  refine awD (scq [1, 3, 4, 6, 8] .nil) [none, none, none, none, none] ?_
  simp only [(id F_wSm), seval, cRat, hI0, hat0]
  repeat refine ob ?_
  refine ⟨_, hCl, rfl, ?_⟩
  try unfold Later
  try simp only [(id F_wSm), seval, cRat, hI0, hat0]
  repeat refine ob ?_
  refine ⟨_, hA, rfl, ?_⟩
  try unfold Later
  try simp only [(id F_wSm), seval, cRat, hI0, hat0]
  repeat refine ob ?_
  refine awR [] [none, none] ?_
  simp only [(id F_wSm), seval, cRat, hI0, hat0]
  repeat refine ob ?_
  repeat refine ob ?_
  refine ⟨_, wk_keep [2, 3, 7, 8, 9] [2, 3], l.length - (i0 + 1), by omega, i0 + 1, (q + x), ?a7_nx, by omega, rfl, ?i7_0, ?i7_1, ?st7⟩
  case st7 => (simp only [(id F_wSm), seval, cRat, hI0, hat0]; first | rfl | (simp [hI0, hat0, Nat.add_mul]; done))
  case i7_0 => (rw [← hL0]; grind)
  case i7_1 => (first | omega | assumption | (simp; omega) | (simp_all; done))
 obtain rfl : i0 = l.length := by omega
 have hI0 : ¬ (l.length : Int) < (l.length : Int) := by omega
 rw [List.drop_length] at hL0
 simp only [rSum] at hL0
 refine awR [] [none] ?_
 simp only [(id F_wSm), seval, cRat, hI0]
 repeat refine ob ?_
 refine awF ?_
 refine awQ ?_
 simp only [(id F_wSm), seval]
 refine awR [] [none, none] ?_
 simp only [(id F_wSm), seval, cRat, hI0]
 repeat refine ob ?_
 refine awX ?_
 simp only [(id F_wSm), seval]
 have hq9 : q = rSum l := by grind
 simp [hq9, cRat]
def F_lEs := And.intro zS (And.intro tf61 (And.intro tf62 (And.intro tf74 (And.intro tf63 (And.intro tf64 (And.intro tf53 (And.intro tf84 (tf130))))))))
set_option maxRecDepth 100000 in
set_option maxHeartbeats 4000000 in
theorem est_A (c : Nat) (list : List N4) (pools : List N3) (hc : c < 65536) (hls : ∀ x ∈ list, x.a < 65536 ∧ x.b < 65536 ∧ x.c < 65536 ∧ x.d < 65536) (hps : ∀ p ∈ pools, p.a < 65536 ∧ p.b < 65536 ∧ p.c < 65536) (hl1 : list.length ≤ 9223372036854775807) (hp1 : pools.length ≤ 9223372036854775807) : ACall Tryz.prog 36 [.one (.lit (.int .u16 c)), .one (.sh 4 list.length (flat cN4 list)), .one (.sh 3 pools.length (flat cN3 pools))] (.val (.agg (cEst (estN c list pools)))) := by
 refine acall_of Tryz.func36 rfl (by decide) (N := 15) rfl (by simp) (R := [.cell 6 36]) rfl fun en k0 => ?_
 refine awR [] [none] ?_
 simp only [(id F_lEs), seval]
 repeat refine ob ?_
 have hes : (grpN 0 [c] list pools []).ests = [estN c list pools] := estN_list c list pools
 have hG := group_A 0 [c] list pools [] (by decide) (by simpa using hc) hls hps (by simp) (by simp) hl1 hp1 (by simp)
 generalize hgr : grpN 0 [c] list pools [] = gr at *
 have hfe : flat cEst [estN c list pools] = cEst (estN c list pools) ++ [] := rfl
 simp only [cEst, List.cons_append, List.nil_append] at hfe
 simp only [cGrp, hes, List.length_cons, List.length_nil, hfe] at hG
 refine awR [11] [none, none, none, none, none, none, none, none, none] ?_
 simp only [(id F_lEs), seval, cEst, cGrp]
 repeat refine ob ?_
 refine ⟨_, acallI_give (nm := 8) hG (by simp [allA, pure1, pureCs, pureC, A1.cells, flat_pure cClaim_pure, flat_pure cAgr_pure, flat_pure cDebt_pure]) (by simp [pure1, pureCs, pureC, A1.cells, flat_pure cN4_pure, flat_pure cN3_pure, flat_pure cU16_pure]) (fun e σ w vs hW hx hd => ?_), ?_⟩
 ·
  obtain ⟨v1, vs1, rfl, d1, hd1⟩ := den1s_cons hd
  obtain ⟨v2, vs2, rfl, d2, hd2⟩ := den1s_cons hd1
  obtain ⟨v3, vs3, rfl, d3, hd3⟩ := den1s_cons hd2
  obtain ⟨v4, vs4, rfl, d4, hd4⟩ := den1s_cons hd3
  obtain ⟨v5, vs5, rfl, d5, hd5⟩ := den1s_cons hd4
  exact ⟨den1_ext hx d1, own_give (B := ⟨1, 57, 1, 1, flat cU16 [c]⟩) hW d2 (by rfl) rfl (by show (1 : Nat) ≠ 0; decide), den1_ext hx d3, den1_ext hx d4, den_nilsh 3 (den1_ext (a := .one (.lit (.slice none 0 0))) hx d5), (by cases vs5 with | nil => exact trivial | cons v vs => exact hd5.elim)⟩
 rintro res H' nx' ⟨rfl, rfl, rfl⟩
 simp only [(id F_lEs), seval, (id SD)]
 repeat refine ob ?_
 refine awX ?_
 simp only [(id F_lEs), seval]
 try rfl
 try exact ⟨flat_pure cClaim_pure _, flat_pure cAgr_pure _⟩
end Go.Proofs.YtmbahnmhicdjfaaGreatDoor
end
section
/- Plain: what the laws of the ranks, pools and tiers say of a built estate. No walk. -/
namespace Go.Proofs.YtmbahnmhicdjfaaGreatDoor
open Go Go.RowKit
theorem mPos_enc {m : Rat} (h : 0 ≤ m) : mPos (enc m) = m := by
  unfold mPos qmax
  rw [qOf_enc]
  split <;> grind
theorem sgn_neg {q : Rat} (h : 0 ≤ q) : ¬ qSgn q < 0 := by unfold qSgn qCmp; grind
structure grP (e : GEst) (g : List Rat) (i k : Nat) (hi : i < e.claims.length) (hk : k < e.claims.length) (hgi : i < g.length) (hgk : k < g.length) : Prop where
  nn : ¬ qSgn g[i] < 0
  le : ¬ 0 < qCmp g[i] (qOf e.claims[i].amount)
  sen : e.claims[i].rank < e.claims[k].rank → 0 < qSgn g[k] → g[i] = qOf e.claims[i].amount
  par : e.claims[i].rank = e.claims[k].rank → g[i] * qOf e.claims[k].amount = g[k] * qOf e.claims[i].amount
end Go.Proofs.YtmbahnmhicdjfaaGreatDoor
end
section
/- Plain: what is delivered by a built estate: sizes; the claims that are in no agreement. No walk. -/
namespace Go.Proofs.YtmbahnmhicdjfaaGreatDoor
open Go Go.RowKit
theorem pSum_le {e : GEst} (h : wcOK e) : ∀ l : List GAgr, (∀ a ∈ l, a ∈ e.agrs) → pSum (l.map (wPool e.claims)) ≤ l.length * 600
  | [], _ => Nat.le_refl _
  | a :: l, hl => by
    have h1 := pSum_le h l fun x hx => hl x (by simp [hx])
    have ha := hl a (by simp)
    have h2 : wN (wPool e.claims a).2 = pN a + (mem a).length := by
      show wN ((wTiers a _).2 ++ [wLast _ _]) = _
      rw [wN_app, (wTiers_len a _).2]
      simp [wN, wLast]
    have h3 : pN a ≤ 576 := by rw [pN_flat]; exact (h.ag a ha).2.2.1
    have h4 := (h.mi a ha).2
    have h5 := h.n
    rw [List.map_cons, pSum_cons, h2, List.length_cons]
    omega
def kD (M : Nat) : Nat := kG 6 1 M + 1200 * (kY 6 1 M + 1)
def ipP (c : Int) : List GPart → Bool
  | [] => false
  | p :: l => if p.claim = c then true else ipP c l
def ipT (c : Int) : List (List GPart) → Bool
  | [] => false
  | t :: l => if ipP c t = true then true else ipT c l
def ipA (c : Int) : List GAgr → Bool
  | [] => false
  | a :: l => if ipT c a = true then true else ipA c l
structure dlP (e : GEst) (l g : List Rat) (i : Nat) (hi : i < e.claims.length) (hl : i < l.length) (hg : i < g.length) : Prop where
  nn : ¬ qSgn l[i] < 0
  le : ¬ 0 < qCmp l[i] (qOf e.claims[i].amount)
  out : ipA (i : Int) e.agrs = false → l[i] = g[i]
end Go.Proofs.YtmbahnmhicdjfaaGreatDoor
end
section
/- WaterfallPools: the law's own function; walked by the abstract machine. -/
namespace Go.Proofs.YtmbahnmhicdjfaaGreatDoor
open Go Go.RowKit
theorem aSgnB (q : Rat) (M : Nat) (h : qB M q) (hM : M ≤ 500000000000) : ACall Tryz.prog 39 [.agg (cRat (enc q))] (one (.int .i64 (qSgn q))) := by
  have hs := sB_enc h
  have h := aSign (enc q) (Nat.le_trans hs.1 hM) (Nat.le_trans hs.2 hM)
  rwa [qOf_enc] at h
theorem rSum_B {G : Nat} : ∀ {l : List Rat}, (∀ x ∈ l, qB G x) → l.length ≤ 6 → qB (1 + 6 * (G + 1)) (rSum l) := fun {l} h hn => by
  have h1 : ∀ l : List Rat, (∀ x ∈ l, qB G x) → qB (1 + l.length * (G + 1)) (rSum l) := by
    intro l
    induction l with
    | nil => intro _; simpa [rSum] using qB_zero
    | cons x l ih =>
      intro h
      refine ((h x (by simp)).add (ih fun y hy => h y (by simp [hy]))).mono ?_
      simp only [List.length_cons, Nat.add_mul, Nat.one_mul]; omega
  refine (h1 l h).mono ?_
  have := Nat.mul_le_mul_right (G + 1) hn
  omega
structure dlQ (l g : Rat) (ip : Bool) (a : GClaim) : Prop where
  nn : ¬ qSgn l < 0
  le : ¬ 0 < qCmp l (qOf a.amount)
  out : ip = false → l = g
end Go.Proofs.YtmbahnmhicdjfaaGreatDoor
end
