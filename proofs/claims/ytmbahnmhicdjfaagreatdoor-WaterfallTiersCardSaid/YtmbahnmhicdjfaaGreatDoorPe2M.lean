/- Plain: an agreement whose claims have one part each without a cap. No walk. -/
import Derived.Test.YtmbahnmhicdjfaaGreatDoorWlaM
set_option linter.unusedVariables false
set_option linter.unusedSimpArgs false
set_option linter.defProp false
set_option linter.unnecessarySimpa false
section
/- Plain: an agreement whose claims have one part each without a cap. No walk. -/
namespace Go.Proofs.YtmbahnmhicdjfaaGreatDoor
open Go Go.RowKit
def uP (i : Int) : GPart := ⟨i, false, gZ⟩
theorem wTier_u : ∀ (M : List Int) (rest : List Rat), M.Nodup → (∀ i ∈ M, 0 ≤ i ∧ i < (rest.length : Int)) → wTier (M.map uP) rest = (wZero M rest, wLast M rest)
  | [], _, _, _ => rfl
  | i :: M, rest, hn, h => by
    have h0 := List.nodup_cons.1 hn
    have hi := h i (by simp)
    have h1 : wPart rest (uP i) = (rest.set i.toNat 0, rest.getD i.toNat 0) := by
      unfold wPart uP
      have h2 : ¬ i = -1 := by omega
      simp only [h2, if_false]
      rw [if_neg (by decide), show rest.getD i.toNat 0 - rest.getD i.toNat 0 = 0 by grind]
    have h2 := wTier_u M (rest.set i.toNat 0) h0.2 fun x hx => by rw [List.length_set]; exact h x (by simp [hx])
    rw [List.map_cons, wTier, h1]
    simp only [h2, wZero, wLast, List.map_cons]
    refine Prod.ext rfl ?_
    simp only [show (uP i).claim = i from rfl]
    congr 1
    refine List.map_congr_left fun x hx => ?_
    have hx0 := h x (by simp [hx])
    have hne : i ≠ x := fun e => h0.1 (e ▸ hx)
    rw [getD_set_ne (by omega)]
def uSel (p : N3) (x : Nat) : Nat → Nat → List Int
  | 0, _ => []
  | n + 1, i => if bgB p i = x then (i : Int) :: uSel p x n (i + 1) else uSel p x n (i + 1)
theorem uSel_mem (p : N3) (x : Nat) : ∀ (n i : Nat) (c : Int), c ∈ uSel p x n i ↔ (i : Int) ≤ c ∧ c < ((i + n : Nat) : Int) ∧ bgB p c.toNat = x
  | 0, i, c => by simp [uSel]; omega
  | n + 1, i, c => by
    have h1 := uSel_mem p x n (i + 1) c
    rw [uSel]
    by_cases hc : c = (i : Int)
    · subst hc
      split
      · rename_i h; simp [h]; omega
      rename_i h; rw [h1]; simp [h]
    split
    · rw [List.mem_cons, h1]
      constructor
      · rintro (h | h)
        · exact absurd h hc
        exact ⟨by omega, by omega, h.2.2⟩
      exact fun h => .inr ⟨by omega, by omega, h.2.2⟩
    rw [h1]
    constructor
    · exact fun h => ⟨by omega, by omega, h.2.2⟩
    exact fun h => ⟨by omega, by omega, h.2.2⟩
theorem uSel_nodup (p : N3) (x : Nat) : ∀ n i, (uSel p x n i).Nodup
  | 0, _ => by simp [uSel]
  | n + 1, i => by
    have h1 := uSel_nodup p x n (i + 1)
    rw [uSel]
    split
    · refine List.nodup_cons.2 ⟨fun h => ?_, h1⟩
      have := (uSel_mem p x n (i + 1) _).1 h
      omega
    exact h1
theorem bgL_u (p : N3) (hc : p.c = 0) : ∀ (l : List GClaim) (i : Nat) (T : T3), bgL [] p l i T = ⟨T.a ++ (uSel p 1 l.length i).map uP, T.b ++ (uSel p 2 l.length i).map uP, T.c ++ (uSel p 3 l.length i).map uP⟩
  | [], i, T => by simp [bgL, uSel]
  | _ :: l, i, T => by
    have hP : bgP p i = uP (i : Int) := by
      unfold bgP uP
      rw [hc, if_neg (by simp)]
    have h4 : bgB p i < 4 := by unfold bgB; omega
    rw [bgL, bgL_u p hc l (i + 1)]
    simp only [List.length_cons, uSel]
    unfold bgS
    have hfr : frA (i : Int) [] = true := rfl
    by_cases h0 : bgB p i = 0
    · simp [h0]
    rw [if_neg h0, if_pos hfr, hP]
    unfold T3.put
    by_cases h1 : bgB p i = 1
    · simp [h1]
    by_cases h2 : bgB p i = 2
    · simp [h2]
    have h3 : bgB p i = 3 := by omega
    simp [h3]
noncomputable def uA (p : N3) (n : Nat) : GAgr := [(uSel p 1 n 0).map uP, (uSel p 2 n 0).map uP, (uSel p 3 n 0).map uP]
theorem bgN_u (e : GEst) (p : N3) (he : e.agrs = []) (hc : p.c = 0) (ha : p.a / 8 % 4 ≠ 0) : bgN e p = uA p e.claims.length := by
  unfold bgN bgT uA
  rw [he, bgL_u p hc, if_neg ha]
  simp
theorem wZero_keep (M : List Int) (l : List Rat) (i : Int) (h : ∀ j ∈ M, 0 ≤ j) (hi : 0 ≤ i) (hn : i ∉ M) : (wZero M l).getD i.toNat 0 = l.getD i.toNat 0 := by
  rw [wZero_get M l i.toNat h, Int.toNat_of_nonneg hi, if_neg hn]
theorem wLast_same (M : List Int) (l l' : List Rat) (h : ∀ i ∈ M, l.getD i.toNat 0 = l'.getD i.toNat 0) : wLast M l = wLast M l' := by
  unfold wLast
  exact List.map_congr_left fun i hi => by rw [h i hi]
theorem wPool_u (cs : List GClaim) (p : N3) (j : Nat) (hj : j < 3) (c : Int) (hc : c ∈ uSel p (j + 1) cs.length 0) : ∀ k (h : k < (wPool cs (uA p cs.length)).2.length), wAt c (wPool cs (uA p cs.length)).2[k] = if k = j then (cs.map fun c => qOf c.amount).getD c.toNat 0 else 0 := by
  have hin : ∀ x, ∀ i ∈ uSel p x cs.length 0, 0 ≤ i ∧ i < (cs.length : Int) := fun x i hi => by
    have := (uSel_mem p x cs.length 0 i).1 hi
    omega
  have hd : ∀ x y, x ≠ y → ∀ i ∈ uSel p x cs.length 0, i ∉ uSel p y cs.length 0 := fun x y hxy i hi hj => by
    have h1 := (uSel_mem p x cs.length 0 i).1 hi
    have h2 := (uSel_mem p y cs.length 0 i).1 hj
    omega
  have hnd := fun x => uSel_nodup p x cs.length 0
  generalize hR : (cs.map fun c => qOf c.amount) = R at *
  have hRl : R.length = cs.length := by rw [← hR]; simp
  have e1 := wTier_u (uSel p 1 cs.length 0) R (hnd 1) (by rw [hRl]; exact hin 1)
  have e2 := wTier_u (uSel p 2 cs.length 0) (wZero (uSel p 1 cs.length 0) R) (hnd 2) (by rw [wZero_len, hRl]; exact hin 2)
  have e3 := wTier_u (uSel p 3 cs.length 0) (wZero (uSel p 2 cs.length 0) (wZero (uSel p 1 cs.length 0) R)) (hnd 3) (by rw [wZero_len, wZero_len, hRl]; exact hin 3)
  have f2 : wLast (uSel p 2 cs.length 0) (wZero (uSel p 1 cs.length 0) R) = wLast (uSel p 2 cs.length 0) R := wLast_same _ _ _ fun i hi => wZero_keep _ _ _ (fun x hx => (hin 1 x hx).1) (hin 2 i hi).1 (hd 2 1 (by decide) i hi)
  have f3 : wLast (uSel p 3 cs.length 0) (wZero (uSel p 2 cs.length 0) (wZero (uSel p 1 cs.length 0) R)) = wLast (uSel p 3 cs.length 0) R := wLast_same _ _ _ fun i hi => by
    rw [wZero_keep _ _ _ (fun x hx => (hin 2 x hx).1) (hin 3 i hi).1 (hd 3 2 (by decide) i hi), wZero_keep _ _ _ (fun x hx => (hin 1 x hx).1) (hin 3 i hi).1 (hd 3 1 (by decide) i hi)]
  have hl : (wPool cs (uA p cs.length)).2 = [wLast (uSel p 1 cs.length 0) R, wLast (uSel p 2 cs.length 0) R, wLast (uSel p 3 cs.length 0) R, wLast (mem (uA p cs.length)) (wZero (uSel p 3 cs.length 0) (wZero (uSel p 2 cs.length 0) (wZero (uSel p 1 cs.length 0) R)))] := by
    unfold wPool
    rw [hR]
    show (wTiers [_, _, _] R).2 ++ [wLast _ (wTiers [_, _, _] R).1] = _
    simp only [wTiers, e1, e2, e3, f2, f3, List.cons_append, List.nil_append]
  have hci := hin _ c hc
  have hz : (wZero (uSel p 3 cs.length 0) (wZero (uSel p 2 cs.length 0) (wZero (uSel p 1 cs.length 0) R))).getD c.toNat 0 = 0 := by
    rw [wZero_get _ _ _ fun x hx => (hin 3 x hx).1, wZero_get _ _ _ fun x hx => (hin 2 x hx).1, wZero_get _ _ _ fun x hx => (hin 1 x hx).1, Int.toNat_of_nonneg hci.1]
    have h3 : j = 0 ∨ j = 1 ∨ j = 2 := by omega
    rcases h3 with rfl | rfl | rfl
    · simp only [hc, if_true]; split <;> (try split) <;> rfl
    · simp only [hc, if_true]; split <;> rfl
    simp only [hc, if_true]
  have hw := fun x => wLast_at R (uSel p x cs.length 0) c (hnd x)
  intro k hk
  have hk4 : k < 4 := by rw [hl] at hk; simpa using hk
  have h0 : (wPool cs (uA p cs.length)).2[k]? = [wLast (uSel p 1 cs.length 0) R, wLast (uSel p 2 cs.length 0) R, wLast (uSel p 3 cs.length 0) R, wLast (mem (uA p cs.length)) (wZero (uSel p 3 cs.length 0) (wZero (uSel p 2 cs.length 0) (wZero (uSel p 1 cs.length 0) R)))][k]? := by rw [hl]
  rw [List.getElem?_eq_getElem hk] at h0
  have h3 : j = 0 ∨ j = 1 ∨ j = 2 := by omega
  have hk3 : k = 0 ∨ k = 1 ∨ k = 2 ∨ k = 3 := by omega
  have hno : ∀ x, x ≠ j + 1 → c ∉ uSel p x cs.length 0 := fun x hx => hd (j + 1) x (Ne.symm hx) c hc
  have hlast : wAt c (wLast (mem (uA p cs.length)) (wZero (uSel p 3 cs.length 0) (wZero (uSel p 2 cs.length 0) (wZero (uSel p 1 cs.length 0) R)))) = 0 := by
    rw [wLast_at _ _ _ (mem_nodup _), hz]
    split <;> rfl
  rcases hk3 with rfl | rfl | rfl | rfl
  · obtain h0 := Option.some.inj h0
    rw [h0, hw 1]
    by_cases hj0 : 0 = j
    · subst hj0; rw [if_pos hc, if_pos rfl]
    rw [if_neg hj0, if_neg (hno 1 (by omega))]
  · obtain h0 := Option.some.inj h0
    rw [h0, hw 2]
    by_cases hj0 : 1 = j
    · subst hj0; rw [if_pos hc, if_pos rfl]
    rw [if_neg hj0, if_neg (hno 2 (by omega))]
  · obtain h0 := Option.some.inj h0
    rw [h0, hw 3]
    by_cases hj0 : 2 = j
    · subst hj0; rw [if_pos hc, if_pos rfl]
    rw [if_neg hj0, if_neg (hno 3 (by omega))]
  obtain h0 := Option.some.inj h0
  rw [h0, hlast, if_neg (by omega)]
theorem del_u {e : GEst} (he : eOK e) {p : N3} (ha : e.agrs = [uA p e.claims.length]) {m : Rat} {j : Nat} (hj : j < 3) {c : Int} (hc : c ∈ uSel p (j + 1) e.claims.length 0) :
    (wDel (wLay e) m).cl.getD c.toNat 0 = (e.claims.map fun c => qOf c.amount).getD c.toNat 0 * wFr (wPool e.claims (uA p e.claims.length)).2 (wTot (wGross (wLay e) m) (wPool e.claims (uA p e.claims.length)).1) j := by
  have hci := (uSel_mem p (j + 1) e.claims.length 0 c).1 hc
  have hps : (wLay e).pools = [wPool e.claims (uA p e.claims.length)] := by
    unfold wLay
    rw [ha]; rfl
  have hmem : c ∈ mem (uA p e.claims.length) := by
    have h3 : j = 0 ∨ j = 1 ∨ j = 2 := by omega
    refine mem_of (p := uP c) ?_ (by show c ≠ -1; omega)
    unfold uA
    rcases h3 with rfl | rfl | rfl
    · simp only [List.flatten_cons, List.mem_append, List.mem_map]
      exact .inl ⟨c, hc, rfl⟩
    · simp only [List.flatten_cons, List.mem_append, List.mem_map]
      exact .inr (.inl ⟨c, hc, rfl⟩)
    simp only [List.flatten_cons, List.mem_append, List.mem_map]
    exact .inr (.inr (.inl ⟨c, hc, rfl⟩))
  have hin : inPs ((c.toNat : Nat) : Int) (wLay e).pools := by
    rw [hps]
    refine ⟨wPool e.claims (uA p e.claims.length), by simp, ?_⟩
    rw [Int.toNat_of_nonneg (by omega)]
    exact hmem
  have h1 := (del_at (m := m) he c.toNat).2 hin
  rw [hps, wPs, wPs, Int.toNat_of_nonneg (by omega)] at h1
  rw [h1, wPayA_fr c _ _ _ j (wPool_u e.claims p j hj c hc)]
  grind
end Go.Proofs.YtmbahnmhicdjfaaGreatDoor
end
section
/- Two numbers compared, equal or not. No walk. -/
namespace Go.Proofs.YtmbahnmhicdjfaaGreatDoor
open Go Go.RowKit
end Go.Proofs.YtmbahnmhicdjfaaGreatDoor
end
