/- Plain: what a ladder pays, claim by claim and in all; it grows with the money. No walk. -/
import Derived.Test.YtokmkopihhnggaaGreatDoorFewM
set_option linter.unusedVariables false
set_option linter.unusedSimpArgs false
set_option linter.defProp false
set_option linter.unnecessarySimpa false
section
/- Plain: what a ladder pays, claim by claim and in all; it grows with the money. No walk. -/
namespace Go.Proofs.YtokmkopihhnggaaGreatDoor
open Go Go.RowKit
def WR.get (R : WR) (i : Int) : Rat := if i = -1 then R.rv else R.cl.getD i.toNat 0
def rSum : List Rat → Rat
  | [] => 0
  | x :: l => x + rSum l
def WR.all (R : WR) : Rat := rSum R.cl + R.rv
def inR (n : Nat) (c : Int) : Prop := c = -1 ∨ 0 ≤ c ∧ c < n
def wIn (n : Nat) (t : WT) : Prop := ∀ p ∈ t, inR n p.1
def wAt (i : Int) : WT → Rat
  | [] => 0
  | p :: t => (if p.1 = i then p.2 else 0) + wAt i t
def wAts (i : Int) : List WT → Rat
  | [] => 0
  | t :: l => wAt i t + wAts i l
theorem getD_set_self {l : List Rat} {k : Nat} (h : k < l.length) (x : Rat) : (l.set k x).getD k 0 = x := by
  rw [List.getD_eq_getElem?_getD, List.getElem?_set_self h]; rfl
theorem getD_set_ne {l : List Rat} {k j : Nat} (h : k ≠ j) (x : Rat) : (l.set k x).getD j 0 = l.getD j 0 := by
  rw [List.getD_eq_getElem?_getD, List.getElem?_set_ne h, ← List.getD_eq_getElem?_getD]
def wNN (l : List WT) : Prop := ∀ t ∈ l, ∀ p ∈ t, 0 ≤ p.2
end Go.Proofs.YtokmkopihhnggaaGreatDoor
end
section
/- Plain: what the ranks of an estate pay. No walk. -/
namespace Go.Proofs.YtokmkopihhnggaaGreatDoor
open Go Go.RowKit
theorem wRk_in (r : Int) : ∀ (cs : List GClaim) (s : Nat), ∀ p ∈ wRk r cs s, (s : Int) ≤ p.1 ∧ p.1 < ((s + cs.length : Nat) : Int) ∧ ∃ c ∈ cs, p.2 = qOf c.amount
  | [], _, p, h => by simp [wRk] at h
  | c :: cs, s, p, h => by
    have ih := wRk_in r cs (s + 1) p
    rw [wRk] at h
    simp only [List.length_cons]
    split at h
    · rcases List.mem_cons.1 h with rfl | h
      · exact ⟨by simp, by simp; omega, c, by simp, rfl⟩
      obtain ⟨h1, h2, d, h3, h4⟩ := ih h
      exact ⟨by omega, by omega, d, by simp [h3], h4⟩
    obtain ⟨h1, h2, d, h3, h4⟩ := ih h
    exact ⟨by omega, by omega, d, by simp [h3], h4⟩
theorem wRk_len (r : Int) : ∀ (cs : List GClaim) (s : Nat), (wRk r cs s).length ≤ cs.length
  | [], _ => Nat.le_refl _
  | c :: cs, s => by
    have := wRk_len r cs (s + 1)
    rw [wRk]
    split <;> simp only [List.length_cons] <;> omega
theorem wRanks_get (cs : List GClaim) (j : Nat) (h : j < (wRanks cs).length) : (wRanks cs)[j] = wRk (j : Int) cs 0 := by
  have h8 : j < 8 := by simpa [wRanks] using h
  have h1 : (wRanks cs)[j]? = some (wRk (j : Int) cs 0) := by
    unfold wRanks
    rw [List.getElem?_map, List.getElem?_range h8]; rfl
  exact (List.getElem?_eq_some_iff.1 h1).2
theorem wRanks_len (cs : List GClaim) : (wRanks cs).length = 8 := by simp [wRanks]
theorem wRanks_mem {cs : List GClaim} {t : WT} (h : t ∈ wRanks cs) : ∃ r : Nat, r < 8 ∧ t = wRk (r : Int) cs 0 := by
  unfold wRanks at h
  obtain ⟨r, h1, rfl⟩ := List.mem_map.1 h
  exact ⟨r, by simpa using h1, rfl⟩
theorem wRanks_in (cs : List GClaim) : ∀ t ∈ wRanks cs, wIn cs.length t := fun t h p hp => by
  obtain ⟨r, _, rfl⟩ := wRanks_mem h
  obtain ⟨h1, h2, _⟩ := wRk_in r cs 0 p hp
  exact .inr ⟨by omega, by omega⟩
structure wEst (cs : List GClaim) : Prop where
  am : ∀ c ∈ cs, 0 ≤ qOf c.amount
  rk : ∀ c ∈ cs, 0 ≤ c.rank ∧ c.rank ≤ 7
end Go.Proofs.YtokmkopihhnggaaGreatDoor
end
section
/- Plain: what the agreements of an estate pay. No walk. -/
namespace Go.Proofs.YtokmkopihhnggaaGreatDoor
open Go Go.RowKit
theorem cpt_sound {d : Array Int} : ∀ m, m ≤ d.size → (∀ i j (hi : i < d.size) (hj : j < d.size), i ≤ j → d[i] ≤ d[j]) →
    (Lib.compactUpTo d m).Nodup ∧ ∀ x ∈ Lib.compactUpTo d m, ∃ j, ∃ h : j < d.size, j < m ∧ x = d[j]
  | 0, _, _ => by simp [Lib.compactUpTo]
  | m + 1, hm, hs => by
    obtain ⟨h1, h2⟩ := cpt_sound m (by omega) hs
    have hlt : m < d.size := by omega
    rw [Lib.compactUpTo_succ]
    by_cases hk : Lib.keeps d m = true
    · rw [if_pos hk]
      have hg : d[m]! = d[m] := getElem!_pos d m hlt
      constructor
      · rw [List.nodup_append]
        refine ⟨h1, by simp, ?_⟩
        intro a ha b hb
        obtain ⟨j, hj, hjm, rfl⟩ := h2 a ha
        simp only [List.mem_singleton] at hb
        subst hb
        rw [hg]
        have h3 : d[m - 1]! ≠ d[m]! := by
          unfold Lib.keeps at hk
          rcases Nat.eq_zero_or_pos m with h0 | h0
          · omega
          intro h
          simp [h] at hk
          omega
        rw [hg, getElem!_pos d (m - 1) (by omega)] at h3
        have h4 := hs j (m - 1) hj (by omega) (by omega)
        have h5 := hs (m - 1) m (by omega) hlt (by omega)
        omega
      intro x hx
      rcases List.mem_append.1 hx with hx | hx
      · obtain ⟨j, hj, hjm, rfl⟩ := h2 x hx
        exact ⟨j, hj, by omega, rfl⟩
      simp only [List.mem_singleton] at hx
      subst hx
      exact ⟨m, hlt, by omega, hg⟩
    rw [if_neg hk, List.append_nil]
    exact ⟨h1, fun x hx => by obtain ⟨j, hj, hjm, e⟩ := h2 x hx; exact ⟨j, hj, by omega, e⟩⟩
theorem cpt_all {d : Array Int} : ∀ m, m ≤ d.size → ∀ j (h : j < d.size), j < m → d[j] ∈ Lib.compactUpTo d m
  | 0, _, _, _, h => absurd h (by omega)
  | m + 1, hm, j, hj, hjm => by
    have hlt : m < d.size := by omega
    rw [Lib.compactUpTo_succ]
    by_cases hjm' : j < m
    · exact List.mem_append_left _ (cpt_all m (by omega) j hj hjm')
    have : j = m := by omega
    subst this
    by_cases hk : Lib.keeps d j = true
    · rw [if_pos hk, getElem!_pos d j hlt]
      exact List.mem_append_right _ (by simp)
    rw [if_neg hk, List.append_nil]
    have h3 : j ≠ 0 ∧ d[j - 1]! = d[j]! := by
      unfold Lib.keeps at hk
      rcases Nat.eq_zero_or_pos j with h0 | h0
      · subst h0; simp at hk
      refine ⟨by omega, ?_⟩
      have h9 : ¬ j = 0 := by omega
      have h8 : ¬ ¬ d[j]! = d[j - 1]! := fun h => hk (by simp [h9, h])
      exact (Classical.not_not.1 h8).symm
    rw [getElem!_pos d j hlt, getElem!_pos d (j - 1) (by omega)] at h3
    rw [← h3.2]
    exact cpt_all j (by omega) (j - 1) (by omega) (by omega)
theorem sorted_mono (zs : List Int) : ∀ i j (hi : i < (sorted zs).toArray.size) (hj : j < (sorted zs).toArray.size), i ≤ j → (sorted zs).toArray[i] ≤ (sorted zs).toArray[j] := fun i j hi hj hij => by
  have h1 : (sorted zs).Pairwise fun x y => decide (x ≤ y) = true := by
    unfold sorted
    exact List.pairwise_mergeSort (fun a b c h1 h2 => by simp at *; omega) (fun a b => by simp; omega) zs
  rcases Nat.lt_or_eq_of_le hij with h | rfl
  · have := List.pairwise_iff_getElem.1 h1 i j (by simpa using hi) (by simpa using hj) h
    simpa using this
  exact Int.le_refl _
theorem mem_nodup (a : GAgr) : (mem a).Nodup := (cpt_sound _ (by simp) (sorted_mono _)).1
theorem ids_mem : ∀ {l : List GPart} {p : GPart}, p ∈ l → p.claim ≠ -1 → p.claim ∈ idsOf l
  | q :: l, p, h, hc => by
    simp only [idsOf]
    rcases List.mem_cons.1 h with rfl | h
    · rw [if_neg hc]; simp
    have := ids_mem h hc
    split
    · exact this
    exact List.mem_cons_of_mem _ this
theorem mem_of {a : GAgr} {p : GPart} (h : p ∈ a.flatten) (hc : p.claim ≠ -1) : p.claim ∈ mem a := by
  have h1 : p.claim ∈ sorted (idsOf a.flatten) := by
    unfold sorted
    rw [List.mem_mergeSort]
    exact ids_mem h hc
  obtain ⟨j, hj, he⟩ := List.getElem_of_mem h1
  have h2 := cpt_all (d := (sorted (idsOf a.flatten)).toArray) (sorted (idsOf a.flatten)).length (by simp) j (by simpa using hj) hj
  unfold mem Lib.compact
  rw [← he]
  simpa using h2
theorem wAts_app (i : Int) : ∀ (l m : List WT), wAts i (l ++ m) = wAts i l + wAts i m
  | [], m => by simp only [List.nil_append, wAts]; grind
  | t :: l, m => by simp only [List.cons_append, wAts, wAts_app i l m]; grind
def pOK (n : Nat) (x : GPart) : Prop := inR n x.claim ∧ (x.claim = -1 ∨ x.capped = true → 0 ≤ qOf x.cap)
def rNN (l : List Rat) : Prop := ∀ x ∈ l, 0 ≤ x
theorem getD_nn {l : List Rat} (h : rNN l) (i : Nat) : 0 ≤ l.getD i 0 := by
  rw [List.getD_eq_getElem?_getD]
  cases hx : l[i]? with
  | none => simp
  | some e => exact h e (List.mem_of_getElem? hx)
theorem wPart_ok {n : Nat} {rest : List Rat} {x : GPart} (hx : pOK n x) (hn : rest.length = n) (hr : rNN rest) :
    (wPart rest x).1.length = n ∧ rNN (wPart rest x).1 ∧ 0 ≤ (wPart rest x).2 ∧ ∀ i : Nat, (wPart rest x).1.getD i 0 + (if x.claim = (i : Int) then (wPart rest x).2 else 0) = rest.getD i 0 := by
  unfold wPart
  by_cases h1 : x.claim = -1
  · simp only [h1, if_true]
    refine ⟨hn, hr, hx.2 (.inl h1), fun i => ?_⟩
    have h2 : ¬ ((-1 : Int) = (i : Int)) := by omega
    rw [if_neg h2]; grind
  simp only [h1, if_false]
  rcases hx.1 with h | ⟨h2, h3⟩
  · exact absurd h h1
  have h4 := getD_nn hr x.claim.toNat
  have h5 : 0 ≤ (if x.capped = true then qmin (rest.getD x.claim.toNat 0) (qOf x.cap) else rest.getD x.claim.toNat 0) ∧ (if x.capped = true then qmin (rest.getD x.claim.toNat 0) (qOf x.cap) else rest.getD x.claim.toNat 0) ≤ rest.getD x.claim.toNat 0 := by
    by_cases hc : x.capped = true
    · have h6 := hx.2 (.inr hc)
      rw [if_pos hc]
      unfold qmin
      split <;> grind
    rw [if_neg hc]; grind
  generalize (if x.capped = true then qmin (rest.getD x.claim.toNat 0) (qOf x.cap) else rest.getD x.claim.toNat 0) = c at *
  refine ⟨by rw [List.length_set]; exact hn, fun y hy => ?_, h5.1, fun i => ?_⟩
  · rcases List.mem_or_eq_of_mem_set hy with hy | rfl
    · exact hr y hy
    grind
  by_cases h6 : x.claim = (i : Int)
  · have h7 : x.claim.toNat = i := by omega
    rw [if_pos h6, h7, getD_set_self (by omega)]; grind
  have h7 : x.claim.toNat ≠ i := by omega
  rw [if_neg h6, getD_set_ne h7]; grind
theorem wTier_ok {n : Nat} : ∀ (t : List GPart) (rest : List Rat), (∀ x ∈ t, pOK n x) → rest.length = n → rNN rest →
    (wTier t rest).1.length = n ∧ rNN (wTier t rest).1 ∧ (∀ p ∈ (wTier t rest).2, 0 ≤ p.2) ∧ (∀ i : Nat, (wTier t rest).1.getD i 0 + wAt (i : Int) (wTier t rest).2 = rest.getD i 0) ∧ (wTier t rest).2.map (·.1) = t.map (·.claim)
  | [], rest, _, hn, hr => ⟨hn, hr, by simp [wTier], fun i => by simp only [wTier, wAt]; grind, rfl⟩
  | x :: t, rest, h, hn, hr => by
    obtain ⟨a1, a2, a3, a4⟩ := wPart_ok (h x (by simp)) hn hr
    obtain ⟨b1, b2, b3, b4, b5⟩ := wTier_ok t (wPart rest x).1 (fun y hy => h y (by simp [hy])) a1 a2
    refine ⟨b1, b2, fun p hp => ?_, fun i => ?_, ?_⟩
    · simp only [wTier] at hp
      rcases List.mem_cons.1 hp with rfl | hp
      · exact a3
      exact b3 p hp
    · have h1 := a4 i
      have h2 := b4 i
      simp only [wTier, wAt]
      grind
    simp only [wTier, List.map_cons, b5]
theorem wTiers_ok {n : Nat} : ∀ (a : List (List GPart)) (rest : List Rat), (∀ t ∈ a, ∀ x ∈ t, pOK n x) → rest.length = n → rNN rest →
    (wTiers a rest).1.length = n ∧ rNN (wTiers a rest).1 ∧ wNN (wTiers a rest).2 ∧ (∀ i : Nat, (wTiers a rest).1.getD i 0 + wAts (i : Int) (wTiers a rest).2 = rest.getD i 0) ∧ (wTiers a rest).2.map (fun t => t.map (·.1)) = a.map fun t => t.map (·.claim)
  | [], rest, _, hn, hr => ⟨hn, hr, by simp [wTiers, wNN], fun i => by simp only [wTiers, wAts]; grind, rfl⟩
  | t :: a, rest, h, hn, hr => by
    obtain ⟨a1, a2, a3, a4, a5⟩ := wTier_ok t rest (h t (by simp)) hn hr
    obtain ⟨b1, b2, b3, b4, b5⟩ := wTiers_ok a (wTier t rest).1 (fun y hy => h y (by simp [hy])) a1 a2
    refine ⟨b1, b2, fun u hu => ?_, fun i => ?_, ?_⟩
    · simp only [wTiers] at hu
      rcases List.mem_cons.1 hu with rfl | hu
      · exact a3
      exact b3 u hu
    · have h1 := a4 i
      have h2 := b4 i
      simp only [wTiers, wAts]
      grind
    simp only [wTiers, List.map_cons, a5, b5]
theorem wLast_at (rest : List Rat) : ∀ (M : List Int) (i : Int), M.Nodup → wAt i (wLast M rest) = if i ∈ M then rest.getD i.toNat 0 else 0
  | [], i, _ => by simp [wLast, wAt]
  | j :: M, i, h => by
    have h1 := wLast_at rest M i (List.nodup_cons.1 h).2
    have h2 := (List.nodup_cons.1 h).1
    simp only [wLast, List.map_cons, wAt] at h1 ⊢
    rw [h1]
    by_cases h3 : j = i
    · subst h3
      rw [if_pos rfl, if_neg h2, if_pos (by simp)]; grind
    have h4 : i ∈ j :: M ↔ i ∈ M := by simp [Ne.symm h3]
    rw [if_neg h3]
    simp only [h4]
    grind
structure pLad (cs : List GClaim) (p : WPool) : Prop where
  nd : p.1.Nodup
  inn : ∀ i ∈ p.1, 0 ≤ i ∧ i < (cs.length : Int)
  nn : wNN p.2
  rin : ∀ t ∈ p.2, ∀ x ∈ t, x.1 = -1 ∨ x.1 ∈ p.1
  cap : ∀ i : Nat, (i : Int) ∈ p.1 → wAts (i : Int) p.2 = (cs.map fun c => qOf c.amount).getD i 0
def aOK (n : Nat) (a : GAgr) : Prop := ∀ t ∈ a, ∀ x ∈ t, pOK n x
theorem wPool_ok {cs : List GClaim} {a : GAgr} (ha : aOK cs.length a) (hc : ∀ c ∈ cs, 0 ≤ qOf c.amount) : pLad cs (wPool cs a) := by
  have hr : rNN (cs.map fun c => qOf c.amount) := fun x hx => by
    obtain ⟨c, h1, rfl⟩ := List.mem_map.1 hx
    exact hc c h1
  obtain ⟨b1, b2, b3, b4, b5⟩ := wTiers_ok a (cs.map fun c => qOf c.amount) ha (by simp) hr
  have hin : ∀ i ∈ mem a, 0 ≤ i ∧ i < (cs.length : Int) := fun i hi => by
    obtain ⟨p, h1, h2, h3⟩ := mem_ids (mem_mem hi)
    obtain ⟨t, ht, hp⟩ := List.mem_flatten.1 h1
    rcases (ha t ht p hp).1 with h | h
    · exact absurd h h3
    rw [← h2]; exact h
  refine ⟨mem_nodup a, hin, fun t ht p hp => ?_, fun t ht p hp => ?_, fun i hi => ?_⟩
  · rcases List.mem_append.1 ht with ht | ht
    · exact b3 t ht p hp
    simp only [List.mem_singleton] at ht
    subst ht
    obtain ⟨j, _, rfl⟩ := List.mem_map.1 hp
    exact getD_nn b2 _
  · rcases List.mem_append.1 ht with ht | ht
    · have h1 : t.map (·.1) ∈ (wTiers a (cs.map fun c => qOf c.amount)).2.map (fun t => t.map (·.1)) := List.mem_map.2 ⟨t, ht, rfl⟩
      rw [b5] at h1
      obtain ⟨u, hu, he⟩ := List.mem_map.1 h1
      have h2 : p.1 ∈ u.map (·.claim) := by rw [he]; exact List.mem_map.2 ⟨p, hp, rfl⟩
      obtain ⟨x, hx, hxe⟩ := List.mem_map.1 h2
      by_cases h3 : x.claim = -1
      · exact .inl (by rw [← hxe]; exact h3)
      exact .inr (by rw [← hxe]; exact mem_of (List.mem_flatten.2 ⟨u, hu, hx⟩) h3)
    simp only [List.mem_singleton] at ht
    subst ht
    obtain ⟨j, hj, rfl⟩ := List.mem_map.1 hp
    exact .inr hj
  have h1 := b4 i
  show wAts (i : Int) ((wTiers a _).2 ++ [wLast (mem a) (wTiers a _).1]) = _
  rw [wAts_app]
  have hi' : (i : Int) ∈ mem a := hi
  simp only [wAts, wLast_at _ _ _ (mem_nodup a), hi', if_true, Int.toNat_natCast]
  grind
end Go.Proofs.YtokmkopihhnggaaGreatDoor
end
section
/- Plain: what is delivered on the claims of an estate. No walk. -/
namespace Go.Proofs.YtokmkopihhnggaaGreatDoor
open Go Go.RowKit
def pDis (ps : List WPool) : Prop := ps.Pairwise fun p q => ∀ i ∈ p.1, i ∉ q.1
theorem pLad_in {cs : List GClaim} {p : WPool} (h : pLad cs p) {n : Nat} (hn : n = cs.length) : ∀ t ∈ p.2, wIn n t := fun t ht x hx => by
  subst hn
  rcases h.rin t ht x hx with h1 | h1
  · exact .inl h1
  exact .inr (h.inn _ h1)
structure eOK (e : GEst) : Prop where
  cl : wEst e.claims
  ag : ∀ a ∈ e.agrs, aOK e.claims.length a
  ds : pDis (wLay e).pools
end Go.Proofs.YtokmkopihhnggaaGreatDoor
end
