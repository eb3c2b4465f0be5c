/- Plain: the law of the tiers for a built estate. No walk. -/
import Derived.Test.YtmbahnmhicdjfaaGreatDoorWe1M
set_option linter.unusedVariables false
set_option linter.unusedSimpArgs false
set_option linter.defProp false
set_option linter.unnecessarySimpa false
/- Plain: the law of the tiers for a built estate. No walk. -/
namespace Go.Proofs.YtmbahnmhicdjfaaGreatDoor
open Go Go.RowKit
theorem estN_one (c : Nat) (list : List N4) (p : N3) (hc : p.c = 0) (ha : p.a / 8 % 4 ≠ 0) : (estN c list [p]).agrs = [uA p (estN c list [p]).claims.length] := by
  have hC : ∀ e ∈ list.foldl (addClaim (1 + 0 % 4)) ((List.range (1 + 0 % 4)).map (mkEst [c])), okC e :=
    foldl_ok (Pr := okC) _ (fun es x h => addClaim_ok (1 + 0 % 4) es x h) _ _ fun e he => by
      obtain ⟨i, _, rfl⟩ := List.mem_map.1 he
      exact ⟨by simp [mkEst], rfl⟩
  have hl : (list.foldl (addClaim (1 + 0 % 4)) ((List.range (1 + 0 % 4)).map (mkEst [c]))).length = 1 := by
    rw [foldl_lenE _ fun es x => addClaim_length _ es x]; simp
  unfold estN grpE
  simp only [List.foldl_cons, List.foldl_nil]
  generalize list.foldl (addClaim (1 + 0 % 4)) ((List.range (1 + 0 % 4)).map (mkEst [c])) = es at *
  match es, hl, hC with
  | [e0], _, hC =>
    have h0 := (hC e0 (by simp)).2
    have h1 : p.a % (1 + 0 % 4) = 0 := Nat.mod_one _
    have h2 : addAg (1 + 0 % 4) [e0] p = [⟨e0.cash, e0.claims, [uA p e0.claims.length]⟩] := by
      unfold addAg
      rw [h1]
      have h3 : ([e0] : List GEst).getD 0 ztEst = e0 := rfl
      rw [h3, h0, if_pos (by decide), bgN_u e0 p h0 hc ha]
      rfl
    rw [h2]
    rfl
structure tP (e : GEst) (l : List Rat) (F : Nat → Rat) (j : Nat) (q : GPart) : Prop where
  lo : 0 ≤ q.claim
  hi : q.claim < (e.claims.length : Int)
  v : l.getD q.claim.toNat 0 = (e.claims.map fun c => qOf c.amount).getD q.claim.toNat 0 * F j
theorem uA_at (p : N3) (n j : Nat) (h : j < (uA p n).length) : (uA p n)[j] = (uSel p (j + 1) n 0).map uP := by
  have h3 : j = 0 ∨ j = 1 ∨ j = 2 := by
    have : (uA p n).length = 3 := rfl
    omega
  rcases h3 with rfl | rfl | rfl <;> rfl
theorem tier_tP {e : GEst} (he : eOK e) {p : N3} (ha : e.agrs = [uA p e.claims.length]) {m : Rat} : ∀ j (h : j < (uA p e.claims.length).length), ∀ q ∈ (uA p e.claims.length)[j], tP e (wDel (wLay e) m).cl (wFr (wPool e.claims (uA p e.claims.length)).2 (wTot (wGross (wLay e) m) (wPool e.claims (uA p e.claims.length)).1)) j q := fun j h q hq => by
  have h3 : j < 3 := h
  rw [uA_at] at hq
  obtain ⟨c, hc, rfl⟩ := List.mem_map.1 hq
  have h4 := (uSel_mem p (j + 1) e.claims.length 0 c).1 hc
  exact ⟨by show 0 ≤ c; omega, by show c < _; omega, del_u he ha h3 hc⟩
structure frOK (F : Nat → Rat) : Prop where
  nn : ∀ j, 0 ≤ F j
  sen : ∀ i k, i < k → 0 < F k → F i = 1
theorem wFr_ok {l : List WT} {m : Rat} (hm : 0 ≤ m) : frOK (wFr l m) := ⟨fun j => (wFr_bounds l m j hm).1, fun i k h hk => wFr_senior l m i k hm h hk⟩
structure tQ (la lb : Rat) (a b : GRat) (i k : Nat) : Prop where
  sen : i < k → 0 < qSgn lb → la = qOf a
  par : i = k → la * qOf b = lb * qOf a
theorem tiers_Q {e : GEst} (hc : wEst e.claims) {l : List Rat} {F : Nat → Rat} (hF : frOK F) {i k : Nat} {a b : GPart} (ha : tP e l F i a) (hb : tP e l F k b) {na nb : Nat} (hna : a.claim = (na : Int)) (hnb : b.claim = (nb : Int)) (h1 : na < e.claims.length) (h2 : nb < e.claims.length) (h3 : na < l.length) (h4 : nb < l.length) :
    tQ l[na] l[nb] e.claims[na].amount e.claims[nb].amount i k := by
  have hva := ha.v
  have hvb := hb.v
  rw [hna, Int.toNat_natCast, getD_el h3, am_getD _ na h1] at hva
  rw [hnb, Int.toNat_natCast, getD_el h4, am_getD _ nb h2] at hvb
  refine ⟨fun hik hs => ?_, fun hik => ?_⟩
  · rw [sgn_gt, hvb] at hs
    have h5 := hc.am _ (List.getElem_mem h2)
    have h6 := hF.nn k
    have h7 : 0 < F k := by
      apply Classical.byContradiction
      intro hn
      have h0 : F k = 0 := by grind
      rw [h0] at hs; grind
    rw [hva, hF.sen i k hik h7]; grind
  subst hik
  rw [hva, hvb]; grind
end Go.Proofs.YtmbahnmhicdjfaaGreatDoor
