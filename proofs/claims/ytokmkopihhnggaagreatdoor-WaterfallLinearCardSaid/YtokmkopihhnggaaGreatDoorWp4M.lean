/- Plain: what the ranks of an estate pay. No walk. -/
import Derived.Test.YtokmkopihhnggaaGreatDoorFewM
import Derived.Test.YtokmkopihhnggaaGreatDoorWf6M
set_option linter.unusedVariables false
set_option linter.unusedSimpArgs false
set_option linter.defProp false
namespace Go.Proofs.YtokmkopihhnggaaGreatDoor
open Go Go.RowKit
def wFr : List WT → Rat → Nat → Rat
 | [], _, _ => 0
 | t :: _, m, 0 => if m < wSum t then m / wSum t else 1
 | t :: l, m, r + 1 => if m < wSum t then 0 else wFr l (m - wSum t) r
theorem wPayA_zero (i : Int) : ∀ (l : List WT) (m : Rat), (∀ t ∈ l, wAt i t = 0) → wPayA l m i = 0
 | [], _, _ => rfl
 | t :: l, m, h => by
  rw [wPayA, h t (by simp), wPayA_zero i l _ fun x hx => h x (by simp [hx])]
  split <;> grind
theorem wPayA_fr (i : Int) (a : Rat) : ∀ (l : List WT) (m : Rat) (r : Nat), (∀ j (h : j < l.length), wAt i l[j] = if j = r then a else 0) → wPayA l m i = a * wFr l m r
 | [], m, r, _ => by simp only [wPayA, wFr]; grind
 | t :: l, m, 0, h => by
  have h0 := h 0 (by simp)
  simp only [List.getElem_cons_zero, if_true] at h0
  have h1 := wPayA_zero i l (m - wSum t) fun x hx => by
   obtain ⟨j, hj, rfl⟩ := List.getElem_of_mem hx
   have := h (j + 1) (by simpa using hj)
   simpa using this
  rw [wPayA, wFr, h0, h1]
  split <;> grind
 | t :: l, m, r + 1, h => by
  have h0 := h 0 (by simp)
  have h1 := wPayA_fr i a l (m - wSum t) r fun j hj => by
   have := h (j + 1) (by simpa using hj)
   simpa using this
  rw [wPayA, wFr, h1]
  have h2 : wAt i t = 0 := by simpa using h0
  rw [h2]
  split <;> grind
theorem wFr_bounds : ∀ (l : List WT) (m : Rat) (r : Nat), 0 ≤ m → 0 ≤ wFr l m r ∧ wFr l m r ≤ 1
 | [], _, _, _ => by simp only [wFr]; grind
 | t :: l, m, 0, hm => by
  rw [wFr]
  split
  ·exact div_bounds hm ‹_›
  grind
 | t :: l, m, r + 1, hm => by
  rw [wFr]
  split
  ·grind
  exact wFr_bounds l (m - wSum t) r (by grind)
theorem wRk_at (r : Int) : ∀ (cs : List GClaim) (s k : Nat) (h : k < cs.length), wAt ((s + k : Nat) : Int) (wRk r cs s) = if cs[k].rank = r then qOf cs[k].amount else 0
 | [], _, _, h => absurd h (by simp)
 | c :: cs, s, 0, _ => by
  have h0 : ∀ (cs : List GClaim) (s' : Nat), s < s' → wAt (s : Int) (wRk r cs s') = 0 := by
   intro cs
   induction cs with
   | nil => intro _ _; rfl
   | cons d cs ih =>
    intro s' hs
    have h1 := ih (s' + 1) (by omega)
    rw [wRk]
    split
    ·rw [wAt, h1]
     have h2 : ¬ ((s' : Int) = (s : Int)) := by omega
     simp only [h2, if_false]; grind
    exact h1
  have h1 := h0 cs (s + 1) (by omega)
  rw [wRk]
  simp only [List.getElem_cons_zero, Nat.add_zero]
  split
  ·rw [wAt, h1]
   simp only [if_true]; grind
  exact h1
 | c :: cs, s, k + 1, h => by
  have h1 := wRk_at r cs (s + 1) k (by simpa using h)
  rw [show s + 1 + k = s + (k + 1) by omega] at h1
  rw [wRk]
  simp only [List.getElem_cons_succ]
  split
  ·rw [wAt, h1]
   have h2 : ¬ ((s : Int) = ((s + (k + 1) : Nat) : Int)) := by omega
   simp only [h2, if_false]; grind
  exact h1
theorem wRk_in (r : Int) : ∀ (cs : List GClaim) (s : Nat), ∀ p ∈ wRk r cs s, (s : Int) ≤ p.1 ∧ p.1 < ((s + cs.length : Nat) : Int) ∧ ∃ c ∈ cs, p.2 = qOf c.amount
 | [], _, p, h => by simp [wRk] at h
 | c :: cs, s, p, h => by
  have ih := wRk_in r cs (s + 1) p
  rw [wRk] at h
  simp only [List.length_cons]
  split at h
  ·rcases List.mem_cons.1 h with rfl | h
   ·exact ⟨by simp, by simp; omega, c, by simp, rfl⟩
   obtain ⟨h1, h2, d, h3, h4⟩ := ih h
   exact ⟨by omega, by omega, d, by simp [h3], h4⟩
  obtain ⟨h1, h2, d, h3, h4⟩ := ih h
  exact ⟨by omega, by omega, d, by simp [h3], h4⟩
theorem wRk_len (r : Int) : ∀ (cs : List GClaim) (s : Nat), (wRk r cs s).length ≤ cs.length
 | [], _ => Nat.le_refl _
 | c :: cs, s => by
  have := wRk_len r cs (s + 1)
  rw [wRk]
  split <;> simp only [List.length_cons] <;> omega
theorem wRanks_get (cs : List GClaim) (j : Nat) (h : j < (wRanks cs).length) : (wRanks cs)[j] = wRk (j : Int) cs 0 := by
 have h8 : j < 8 := by simpa [wRanks] using h
 have h1 : (wRanks cs)[j]? = some (wRk (j : Int) cs 0) := by
  unfold wRanks
  rw [List.getElem?_map, List.getElem?_range h8]; rfl
 exact (List.getElem?_eq_some_iff.1 h1).2
theorem wRanks_len (cs : List GClaim) : (wRanks cs).length = 8 := by simp [wRanks]
theorem wRanks_mem {cs : List GClaim} {t : WT} (h : t ∈ wRanks cs) : ∃ r : Nat, r < 8 ∧ t = wRk (r : Int) cs 0 := by
 unfold wRanks at h
 obtain ⟨r, h1, rfl⟩ := List.mem_map.1 h
 exact ⟨r, by simpa using h1, rfl⟩
theorem wRanks_in (cs : List GClaim) : ∀ t ∈ wRanks cs, wIn cs.length t := fun t h p hp => by
 obtain ⟨r, _, rfl⟩ := wRanks_mem h
 obtain ⟨h1, h2, _⟩ := wRk_in r cs 0 p hp
 exact .inr ⟨by omega, by omega⟩
theorem wRanks_nn {cs : List GClaim} (h : ∀ c ∈ cs, 0 ≤ qOf c.amount) : wNN (wRanks cs) := fun t ht p hp => by
 obtain ⟨r, _, rfl⟩ := wRanks_mem ht
 obtain ⟨_, _, c, h1, h2⟩ := wRk_in r cs 0 p hp
 rw [h2]; exact h c h1
theorem wRk_none : ∀ (cs : List GClaim) (r : Int) (s : Nat), wAt (-1) (wRk r cs s) = 0
 | [], _, _ => rfl
 | c :: cs, r, s => by
  have h1 := wRk_none cs r (s + 1)
  rw [wRk]
  split
  ·rw [wAt, h1]
   have h2 : ¬ ((s : Int) = -1) := by omega
   simp only [h2, if_false]; grind
  exact h1
theorem wCap_rk (c : GClaim) (l : List GClaim) (i : Nat) : ∀ (n s : Nat), wCap ((List.range' s n).map fun r : Nat => wRk (r : Int) (c :: l) i) = wCap ((List.range' s n).map fun r : Nat => wRk (r : Int) l (i + 1)) + if (s : Int) ≤ c.rank ∧ c.rank < ((s + n : Nat) : Int) then qOf c.amount else 0
 | 0, s => by
  have h : ¬ ((s : Int) ≤ c.rank ∧ c.rank < ((s + 0 : Nat) : Int)) := by omega
  simp only [List.range'_zero, List.map_nil, wCap, h, if_false]; grind
 | n + 1, s => by
  have ih := wCap_rk c l i n (s + 1)
  rw [List.range'_succ, List.map_cons, List.map_cons, wCap, wCap, ih]
  simp only [wRk]
  by_cases h1 : c.rank = (s : Int)
  ·have h2 : ¬ (((s + 1 : Nat) : Int) ≤ c.rank ∧ c.rank < ((s + 1 + n : Nat) : Int)) := by omega
   have h3 : (s : Int) ≤ c.rank ∧ c.rank < ((s + (n + 1) : Nat) : Int) := by omega
   rw [if_pos h1, if_neg h2, if_pos h3, wSum]; grind
  rw [if_neg h1]
  by_cases h2 : ((s + 1 : Nat) : Int) ≤ c.rank ∧ c.rank < ((s + 1 + n : Nat) : Int)
  ·have h3 : (s : Int) ≤ c.rank ∧ c.rank < ((s + (n + 1) : Nat) : Int) := by omega
   rw [if_pos h2, if_pos h3]; grind
  have h3 : ¬ ((s : Int) ≤ c.rank ∧ c.rank < ((s + (n + 1) : Nat) : Int)) := by omega
  rw [if_neg h2, if_neg h3]; grind
theorem wCap_nil : ∀ (n s i : Nat), wCap ((List.range' s n).map fun r : Nat => wRk (r : Int) [] i) = 0
 | 0, _, _ => rfl
 | n + 1, s, i => by
  rw [List.range'_succ, List.map_cons, wCap, wCap_nil n (s + 1) i]
  simp only [wRk, wSum]; grind
theorem wCap_ranks : ∀ (cs : List GClaim) (i : Nat), (∀ c ∈ cs, 0 ≤ c.rank ∧ c.rank ≤ 7) → wCap ((List.range' 0 8).map fun r : Nat => wRk (r : Int) cs i) = wTotal cs
 | [], i, _ => wCap_nil 8 0 i
 | c :: cs, i, h => by
  have h1 := h c (by simp)
  rw [wCap_rk, wCap_ranks cs (i + 1) fun x hx => h x (by simp [hx]), if_pos (by omega), wTotal]
  grind
theorem wRanks_cap {cs : List GClaim} (h : ∀ c ∈ cs, 0 ≤ c.rank ∧ c.rank ≤ 7) : wCap (wRanks cs) = wTotal cs := by
 unfold wRanks
 rw [List.range_eq_range']
 exact wCap_ranks cs 0 h
theorem rSum_zero : ∀ n, rSum (List.replicate n 0) = 0
 | 0 => rfl
 | n + 1 => by rw [List.replicate_succ, rSum, rSum_zero n]; grind
theorem getD_zero (n i : Nat) : (List.replicate n (0 : Rat)).getD i 0 = 0 := by
 rw [List.getD_eq_getElem?_getD, List.getElem?_replicate]
 split <;> rfl
structure wEst (cs : List GClaim) : Prop where
 am : ∀ c ∈ cs, 0 ≤ qOf c.amount
 rk : ∀ c ∈ cs, 0 ≤ c.rank ∧ c.rank ≤ 7
noncomputable def gFr (cs : List GClaim) (m : Rat) (r : Int) : Rat := wFr (wRanks cs) m r.toNat
theorem gross_at {e : GEst} {m : Rat} (h : wEst e.claims) (k : Nat) (hk : k < e.claims.length) : (wGross (wLay e) m).getD k 0 = qOf e.claims[k].amount * gFr e.claims m e.claims[k].rank := by
 have h1 := wPay_get (k : Int) (.inr (by omega)) (wRanks e.claims) m ⟨List.replicate e.claims.length 0, 0⟩ (by simpa using wRanks_in e.claims)
 have h2 : ¬ ((k : Int) = -1) := by omega
 have hr := h.rk _ (List.getElem_mem hk)
 have h3 := wPayA_fr (k : Int) (qOf e.claims[k].amount) (wRanks e.claims) m e.claims[k].rank.toNat fun j hj => by
  rw [wRanks_get]
  have := wRk_at (j : Int) e.claims 0 k hk
  rw [Nat.zero_add] at this
  rw [this]
  by_cases h4 : e.claims[k].rank = (j : Int)
  ·rw [if_pos h4, if_pos (by omega)]
  rw [if_neg h4, if_neg (by omega)]
 unfold WR.get at h1
 simp only [h2, if_false, Int.toNat_natCast, getD_zero] at h1
 unfold wGross wLay gFr
 rw [h1, h3]; grind
theorem gross_len (e : GEst) (m : Rat) : (wGross (wLay e) m).length = e.claims.length := wGross_len _ _
theorem cpt_sound {d : Array Int} : ∀ m, m ≤ d.size → (∀ i j (hi : i < d.size) (hj : j < d.size), i ≤ j → d[i] ≤ d[j]) →
  (Lib.compactUpTo d m).Nodup ∧ ∀ x ∈ Lib.compactUpTo d m, ∃ j, ∃ h : j < d.size, j < m ∧ x = d[j]
 | 0, _, _ => by simp [Lib.compactUpTo]
 | m + 1, hm, hs => by
  obtain ⟨h1, h2⟩ := cpt_sound m (by omega) hs
  have hlt : m < d.size := by omega
  rw [Lib.compactUpTo_succ]
  by_cases hk : Lib.keeps d m = true
  ·rw [if_pos hk]
   have hg : d[m]! = d[m] := getElem!_pos d m hlt
   constructor
   ·rw [List.nodup_append]
    refine ⟨h1, by simp, ?_⟩
    intro a ha b hb
    obtain ⟨j, hj, hjm, rfl⟩ := h2 a ha
    simp only [List.mem_singleton] at hb
    subst hb
    rw [hg]
    have h3 : d[m - 1]! ≠ d[m]! := by
     unfold Lib.keeps at hk
     rcases Nat.eq_zero_or_pos m with h0 | h0
     ·omega
     intro h
     simp [h] at hk
     omega
    rw [hg, getElem!_pos d (m - 1) (by omega)] at h3
    have h4 := hs j (m - 1) hj (by omega) (by omega)
    have h5 := hs (m - 1) m (by omega) hlt (by omega)
    omega
   intro x hx
   rcases List.mem_append.1 hx with hx | hx
   ·obtain ⟨j, hj, hjm, rfl⟩ := h2 x hx
    exact ⟨j, hj, by omega, rfl⟩
   simp only [List.mem_singleton] at hx
   subst hx
   exact ⟨m, hlt, by omega, hg⟩
  rw [if_neg hk, List.append_nil]
  exact ⟨h1, fun x hx => by obtain ⟨j, hj, hjm, e⟩ := h2 x hx; exact ⟨j, hj, by omega, e⟩⟩
theorem cpt_all {d : Array Int} : ∀ m, m ≤ d.size → ∀ j (h : j < d.size), j < m → d[j] ∈ Lib.compactUpTo d m
 | 0, _, _, _, h => absurd h (by omega)
 | m + 1, hm, j, hj, hjm => by
  have hlt : m < d.size := by omega
  rw [Lib.compactUpTo_succ]
  by_cases hjm' : j < m
  ·exact List.mem_append_left _ (cpt_all m (by omega) j hj hjm')
  have : j = m := by omega
  subst this
  by_cases hk : Lib.keeps d j = true
  ·rw [if_pos hk, getElem!_pos d j hlt]
   exact List.mem_append_right _ (by simp)
  rw [if_neg hk, List.append_nil]
  have h3 : j ≠ 0 ∧ d[j - 1]! = d[j]! := by
   unfold Lib.keeps at hk
   rcases Nat.eq_zero_or_pos j with h0 | h0
   ·subst h0; simp at hk
   refine ⟨by omega, ?_⟩
   have h9 : ¬ j = 0 := by omega
   have h8 : ¬ ¬ d[j]! = d[j - 1]! := fun h => hk (by simp [h9, h])
   exact (Classical.not_not.1 h8).symm
  rw [getElem!_pos d j hlt, getElem!_pos d (j - 1) (by omega)] at h3
  rw [← h3.2]
  exact cpt_all j (by omega) (j - 1) (by omega) (by omega)
theorem sorted_mono (zs : List Int) : ∀ i j (hi : i < (sorted zs).toArray.size) (hj : j < (sorted zs).toArray.size), i ≤ j → (sorted zs).toArray[i] ≤ (sorted zs).toArray[j] := fun i j hi hj hij => by
 have h1 : (sorted zs).Pairwise fun x y => decide (x ≤ y) = true := by
  unfold sorted
  exact List.pairwise_mergeSort (fun a b c h1 h2 => by simp at *; omega) (fun a b => by simp; omega) zs
 rcases Nat.lt_or_eq_of_le hij with h | rfl
 ·have := List.pairwise_iff_getElem.1 h1 i j (by simpa using hi) (by simpa using hj) h
  simpa using this
 exact Int.le_refl _
theorem mem_nodup (a : GAgr) : (mem a).Nodup := (cpt_sound _ (by simp) (sorted_mono _)).1
theorem ids_mem : ∀ {l : List GPart} {p : GPart}, p ∈ l → p.claim ≠ -1 → p.claim ∈ idsOf l
 | q :: l, p, h, hc => by
  simp only [idsOf]
  rcases List.mem_cons.1 h with rfl | h
  ·rw [if_neg hc]; simp
  have := ids_mem h hc
  split
  ·exact this
  exact List.mem_cons_of_mem _ this
theorem mem_of {a : GAgr} {p : GPart} (h : p ∈ a.flatten) (hc : p.claim ≠ -1) : p.claim ∈ mem a := by
 have h1 : p.claim ∈ sorted (idsOf a.flatten) := by
  unfold sorted
  rw [List.mem_mergeSort]
  exact ids_mem h hc
 obtain ⟨j, hj, he⟩ := List.getElem_of_mem h1
 have h2 := cpt_all (d := (sorted (idsOf a.flatten)).toArray) (sorted (idsOf a.flatten)).length (by simp) j (by simpa using hj) hj
 unfold mem Lib.compact
 rw [← he]
 simpa using h2
theorem wAts_app (i : Int) : ∀ (l m : List WT), wAts i (l ++ m) = wAts i l + wAts i m
 | [], m => by simp only [List.nil_append, wAts]; grind
 | t :: l, m => by simp only [List.cons_append, wAts, wAts_app i l m]; grind
theorem wCap_app : ∀ (l m : List WT), wCap (l ++ m) = wCap l + wCap m
 | [], m => by simp only [List.nil_append, wCap]; grind
 | t :: l, m => by simp only [List.cons_append, wCap, wCap_app l m]; grind
def pOK (n : Nat) (x : GPart) : Prop := inR n x.claim ∧ (x.claim = -1 ∨ x.capped = true → 0 ≤ qOf x.cap)
def rNN (l : List Rat) : Prop := ∀ x ∈ l, 0 ≤ x
theorem getD_nn {l : List Rat} (h : rNN l) (i : Nat) : 0 ≤ l.getD i 0 := by
 rw [List.getD_eq_getElem?_getD]
 cases hx : l[i]? with
 | none => simp
 | some e => exact h e (List.mem_of_getElem? hx)
theorem wPart_ok {n : Nat} {rest : List Rat} {x : GPart} (hx : pOK n x) (hn : rest.length = n) (hr : rNN rest) :
  (wPart rest x).1.length = n ∧ rNN (wPart rest x).1 ∧ 0 ≤ (wPart rest x).2 ∧ ∀ i : Nat, (wPart rest x).1.getD i 0 + (if x.claim = (i : Int) then (wPart rest x).2 else 0) = rest.getD i 0 := by
 unfold wPart
 by_cases h1 : x.claim = -1
 ·simp only [h1, if_true]
  refine ⟨hn, hr, hx.2 (.inl h1), fun i => ?_⟩
  have h2 : ¬ ((-1 : Int) = (i : Int)) := by omega
  rw [if_neg h2]; grind
 simp only [h1, if_false]
 rcases hx.1 with h | ⟨h2, h3⟩
 ·exact absurd h h1
 have h4 := getD_nn hr x.claim.toNat
 have h5 : 0 ≤ (if x.capped = true then qmin (rest.getD x.claim.toNat 0) (qOf x.cap) else rest.getD x.claim.toNat 0) ∧ (if x.capped = true then qmin (rest.getD x.claim.toNat 0) (qOf x.cap) else rest.getD x.claim.toNat 0) ≤ rest.getD x.claim.toNat 0 := by
  by_cases hc : x.capped = true
  ·have h6 := hx.2 (.inr hc)
   rw [if_pos hc]
   unfold qmin
   split <;> grind
  rw [if_neg hc]; grind
 generalize (if x.capped = true then qmin (rest.getD x.claim.toNat 0) (qOf x.cap) else rest.getD x.claim.toNat 0) = c at *
 refine ⟨by rw [List.length_set]; exact hn, fun y hy => ?_, h5.1, fun i => ?_⟩
 ·rcases List.mem_or_eq_of_mem_set hy with hy | rfl
  ·exact hr y hy
  grind
 by_cases h6 : x.claim = (i : Int)
 ·have h7 : x.claim.toNat = i := by omega
  rw [if_pos h6, h7, getD_set_self (by omega)]; grind
 have h7 : x.claim.toNat ≠ i := by omega
 rw [if_neg h6, getD_set_ne h7]; grind
theorem wTier_ok {n : Nat} : ∀ (t : List GPart) (rest : List Rat), (∀ x ∈ t, pOK n x) → rest.length = n → rNN rest →
  (wTier t rest).1.length = n ∧ rNN (wTier t rest).1 ∧ (∀ p ∈ (wTier t rest).2, 0 ≤ p.2) ∧ (∀ i : Nat, (wTier t rest).1.getD i 0 + wAt (i : Int) (wTier t rest).2 = rest.getD i 0) ∧ (wTier t rest).2.map (·.1) = t.map (·.claim)
 | [], rest, _, hn, hr => ⟨hn, hr, by simp [wTier], fun i => by simp only [wTier, wAt]; grind, rfl⟩
 | x :: t, rest, h, hn, hr => by
  obtain ⟨a1, a2, a3, a4⟩ := wPart_ok (h x (by simp)) hn hr
  obtain ⟨b1, b2, b3, b4, b5⟩ := wTier_ok t (wPart rest x).1 (fun y hy => h y (by simp [hy])) a1 a2
  refine ⟨b1, b2, fun p hp => ?_, fun i => ?_, ?_⟩
  ·simp only [wTier] at hp
   rcases List.mem_cons.1 hp with rfl | hp
   ·exact a3
   exact b3 p hp
  ·have h1 := a4 i
   have h2 := b4 i
   simp only [wTier, wAt]
   grind
  simp only [wTier, List.map_cons, b5]
theorem wTiers_ok {n : Nat} : ∀ (a : List (List GPart)) (rest : List Rat), (∀ t ∈ a, ∀ x ∈ t, pOK n x) → rest.length = n → rNN rest →
  (wTiers a rest).1.length = n ∧ rNN (wTiers a rest).1 ∧ wNN (wTiers a rest).2 ∧ (∀ i : Nat, (wTiers a rest).1.getD i 0 + wAts (i : Int) (wTiers a rest).2 = rest.getD i 0) ∧ (wTiers a rest).2.map (fun t => t.map (·.1)) = a.map fun t => t.map (·.claim)
 | [], rest, _, hn, hr => ⟨hn, hr, by simp [wTiers, wNN], fun i => by simp only [wTiers, wAts]; grind, rfl⟩
 | t :: a, rest, h, hn, hr => by
  obtain ⟨a1, a2, a3, a4, a5⟩ := wTier_ok t rest (h t (by simp)) hn hr
  obtain ⟨b1, b2, b3, b4, b5⟩ := wTiers_ok a (wTier t rest).1 (fun y hy => h y (by simp [hy])) a1 a2
  refine ⟨b1, b2, fun u hu => ?_, fun i => ?_, ?_⟩
  ·simp only [wTiers] at hu
   rcases List.mem_cons.1 hu with rfl | hu
   ·exact a3
   exact b3 u hu
  ·have h1 := a4 i
   have h2 := b4 i
   simp only [wTiers, wAts]
   grind
  simp only [wTiers, List.map_cons, a5, b5]
theorem wLast_at (rest : List Rat) : ∀ (M : List Int) (i : Int), M.Nodup → wAt i (wLast M rest) = if i ∈ M then rest.getD i.toNat 0 else 0
 | [], i, _ => by simp [wLast, wAt]
 | j :: M, i, h => by
  have h1 := wLast_at rest M i (List.nodup_cons.1 h).2
  have h2 := (List.nodup_cons.1 h).1
  simp only [wLast, List.map_cons, wAt] at h1 ⊢
  rw [h1]
  by_cases h3 : j = i
  ·subst h3
   rw [if_pos rfl, if_neg h2, if_pos (by simp)]; grind
  have h4 : i ∈ j :: M ↔ i ∈ M := by simp [Ne.symm h3]
  rw [if_neg h3]
  simp only [h4]
  grind
structure pLad (cs : List GClaim) (p : WPool) : Prop where
 nd : p.1.Nodup
 inn : ∀ i ∈ p.1, 0 ≤ i ∧ i < (cs.length : Int)
 nn : wNN p.2
 rin : ∀ t ∈ p.2, ∀ x ∈ t, x.1 = -1 ∨ x.1 ∈ p.1
 cap : ∀ i : Nat, (i : Int) ∈ p.1 → wAts (i : Int) p.2 = (cs.map fun c => qOf c.amount).getD i 0
def aOK (n : Nat) (a : GAgr) : Prop := ∀ t ∈ a, ∀ x ∈ t, pOK n x
theorem wPool_ok {cs : List GClaim} {a : GAgr} (ha : aOK cs.length a) (hc : ∀ c ∈ cs, 0 ≤ qOf c.amount) : pLad cs (wPool cs a) := by
 have hr : rNN (cs.map fun c => qOf c.amount) := fun x hx => by
  obtain ⟨c, h1, rfl⟩ := List.mem_map.1 hx
  exact hc c h1
 obtain ⟨b1, b2, b3, b4, b5⟩ := wTiers_ok a (cs.map fun c => qOf c.amount) ha (by simp) hr
 have hin : ∀ i ∈ mem a, 0 ≤ i ∧ i < (cs.length : Int) := fun i hi => by
  obtain ⟨p, h1, h2, h3⟩ := mem_ids (mem_mem hi)
  obtain ⟨t, ht, hp⟩ := List.mem_flatten.1 h1
  rcases (ha t ht p hp).1 with h | h
  ·exact absurd h h3
  rw [← h2]; exact h
 refine ⟨mem_nodup a, hin, fun t ht p hp => ?_, fun t ht p hp => ?_, fun i hi => ?_⟩
 ·rcases List.mem_append.1 ht with ht | ht
  ·exact b3 t ht p hp
  simp only [List.mem_singleton] at ht
  subst ht
  obtain ⟨j, _, rfl⟩ := List.mem_map.1 hp
  exact getD_nn b2 _
 ·rcases List.mem_append.1 ht with ht | ht
  ·have h1 : t.map (·.1) ∈ (wTiers a (cs.map fun c => qOf c.amount)).2.map (fun t => t.map (·.1)) := List.mem_map.2 ⟨t, ht, rfl⟩
   rw [b5] at h1
   obtain ⟨u, hu, he⟩ := List.mem_map.1 h1
   have h2 : p.1 ∈ u.map (·.claim) := by rw [he]; exact List.mem_map.2 ⟨p, hp, rfl⟩
   obtain ⟨x, hx, hxe⟩ := List.mem_map.1 h2
   by_cases h3 : x.claim = -1
   ·exact .inl (by rw [← hxe]; exact h3)
   exact .inr (by rw [← hxe]; exact mem_of (List.mem_flatten.2 ⟨u, hu, hx⟩) h3)
  simp only [List.mem_singleton] at ht
  subst ht
  obtain ⟨j, hj, rfl⟩ := List.mem_map.1 hp
  exact .inr hj
 have h1 := b4 i
 show wAts (i : Int) ((wTiers a _).2 ++ [wLast (mem a) (wTiers a _).1]) = _
 rw [wAts_app]
 have hi' : (i : Int) ∈ mem a := hi
 simp only [wAts, wLast_at _ _ _ (mem_nodup a), hi', if_true, Int.toNat_natCast]
 grind
theorem wTot_nn {g : List Rat} (h : rNN g) : ∀ M : List Int, 0 ≤ wTot g M
 | [] => by simp [wTot]
 | i :: M => by
  have h1 := wTot_nn h M
  have h2 := getD_nn h i.toNat
  rw [wTot]; grind
theorem wTot_le {g a : List Rat} (h : ∀ i : Nat, g.getD i 0 ≤ a.getD i 0) : ∀ M : List Int, wTot g M ≤ wTot a M
 | [] => by simp [wTot]
 | i :: M => by
  have h1 := wTot_le h M
  have h2 := h i.toNat
  rw [wTot, wTot]; grind
def wAtM (M : List Int) (t : WT) : Rat := (M.map fun i => wAt i t).foldr (· + ·) 0
def wAtsM (M : List Int) (l : List WT) : Rat := (M.map fun i => wAts i l).foldr (· + ·) 0
theorem wAtM_nil : ∀ M, wAtM M [] = 0
 | [] => rfl
 | i :: M => by
  have := wAtM_nil M
  simp only [wAtM, List.map_cons, List.foldr_cons, wAt] at this ⊢
  rw [this]; grind
theorem wAtM_out (c : Int) (x : Rat) (t : WT) : ∀ M : List Int, c ∉ M → wAtM M ((c, x) :: t) = wAtM M t
 | [], _ => rfl
 | i :: M, h => by
  have h1 := wAtM_out c x t M fun hm => h (by simp [hm])
  have h2 : ¬ c = i := fun e => h (by simp [e])
  simp only [wAtM, List.map_cons, List.foldr_cons, wAt, h2, if_false] at h1 ⊢
  rw [h1]; grind
theorem wAtM_in (c : Int) (x : Rat) (t : WT) : ∀ M : List Int, M.Nodup → c ∈ M → wAtM M ((c, x) :: t) = x + wAtM M t
 | i :: M, hn, h => by
  have h0 := List.nodup_cons.1 hn
  by_cases h2 : c = i
  ·subst h2
   have h1 := wAtM_out c x t M h0.1
   simp only [wAtM, List.map_cons, List.foldr_cons, wAt, if_true] at h1 ⊢
   rw [h1]; grind
  have h3 : c ∈ M := by
   rcases List.mem_cons.1 h with h | h
   ·exact absurd h h2
   exact h
  have h1 := wAtM_in c x t M h0.2 h3
  simp only [wAtM, List.map_cons, List.foldr_cons, wAt, h2, if_false] at h1 ⊢
  rw [h1]; grind
theorem wSum_parts {M : List Int} (hn : M.Nodup) (hM : (-1 : Int) ∉ M) : ∀ t : WT, (∀ x ∈ t, x.1 = -1 ∨ x.1 ∈ M) → wSum t = wAtM M t + wAt (-1) t
 | [], _ => by rw [wAtM_nil]; simp only [wSum, wAt]; grind
 | p :: t, h => by
  have h1 := wSum_parts hn hM t fun x hx => h x (by simp [hx])
  obtain ⟨c, x⟩ := p
  rcases h (c, x) (by simp) with h2 | h2
  ·simp only at h2
   subst h2
   rw [wAtM_out _ _ _ _ hM, wSum, h1]
   simp only [wAt, if_true]; grind
  have h3 : ¬ c = -1 := fun e => hM (by rw [← e]; exact h2)
  rw [wAtM_in _ _ _ _ hn h2, wSum, h1]
  simp only [wAt, h3, if_false]; grind
theorem wAtsM_nil : ∀ M, wAtsM M [] = 0
 | [] => rfl
 | i :: M => by
  have := wAtsM_nil M
  simp only [wAtsM, List.map_cons, List.foldr_cons, wAts] at this ⊢
  rw [this]; grind
theorem wAtsM_cons (t : WT) (l : List WT) : ∀ M, wAtsM M (t :: l) = wAtM M t + wAtsM M l
 | [] => by simp [wAtsM, wAtM]; grind
 | i :: M => by
  have := wAtsM_cons t l M
  simp only [wAtsM, wAtM, List.map_cons, List.foldr_cons, wAts] at this ⊢
  rw [this]; grind
theorem wCap_parts {M : List Int} (hn : M.Nodup) (hM : (-1 : Int) ∉ M) : ∀ l : List WT, (∀ t ∈ l, ∀ x ∈ t, x.1 = -1 ∨ x.1 ∈ M) → wCap l = wAtsM M l + wAts (-1) l
 | [], _ => by rw [wAtsM_nil]; simp only [wCap, wAts]; grind
 | t :: l, h => by
  have h1 := wCap_parts hn hM l fun x hx => h x (by simp [hx])
  rw [wCap, wAts, wAtsM_cons, wSum_parts hn hM t (h t (by simp)), h1]
  grind
theorem wAtsM_tot {cs : List GClaim} {p : WPool} (h : pLad cs p) : ∀ M : List Int, (∀ i ∈ M, i ∈ p.1) → wAtsM M p.2 = wTot (cs.map fun c => qOf c.amount) M
 | [], _ => rfl
 | i :: M, hM => by
  have h1 := wAtsM_tot h M fun x hx => hM x (by simp [hx])
  have h2 := h.inn i (hM i (by simp))
  have h3 := h.cap i.toNat (by rw [Int.toNat_of_nonneg h2.1]; exact hM i (by simp))
  rw [Int.toNat_of_nonneg h2.1] at h3
  simp only [wAtsM, wTot, List.map_cons, List.foldr_cons] at h1 ⊢
  rw [h1, h3]
theorem wAts_nn (i : Int) : ∀ l, wNN l → 0 ≤ wAts i l
 | [], _ => by simp [wAts]
 | t :: l, h => by
  have h1 := wAts_nn i l fun x hx => h x (by simp [hx])
  have h2 := wAt_nn i t (h t (by simp))
  rw [wAts]; grind
theorem wZero_get : ∀ (M : List Int) (l : List Rat) (i : Nat), (∀ j ∈ M, 0 ≤ j) → (wZero M l).getD i 0 = if (i : Int) ∈ M then 0 else l.getD i 0
 | [], l, i, _ => by simp [wZero]
 | j :: M, l, i, h => by
  have h1 := wZero_get M (l.set j.toNat 0) i fun x hx => h x (by simp [hx])
  have h0 := h j (by simp)
  rw [wZero, h1]
  by_cases h2 : (i : Int) ∈ M
  ·rw [if_pos h2, if_pos (by simp [h2])]
  rw [if_neg h2]
  by_cases h3 : (i : Int) = j
  ·rw [if_pos (by simp [h3])]
   have h4 : j.toNat = i := by omega
   rw [h4, List.getD_eq_getElem?_getD]
   by_cases h5 : i < l.length
   ·rw [List.getElem?_set_self h5]; rfl
   rw [List.getElem?_eq_none (by simpa using Nat.le_of_not_lt h5)]; rfl
  rw [if_neg (by simp [h2, h3]), getD_set_ne (by omega)]
theorem wZero_sum : ∀ (M : List Int) (l : List Rat), M.Nodup → (∀ j ∈ M, 0 ≤ j ∧ j < (l.length : Int)) → rSum (wZero M l) = rSum l - wTot l M
 | [], l, _, _ => by simp only [wZero, wTot]; grind
 | j :: M, l, hn, h => by
  have h0 := List.nodup_cons.1 hn
  have hj := h j (by simp)
  have h1 := wZero_sum M (l.set j.toNat 0) h0.2 (by simpa using fun x hx => h x (by simp [hx]))
  have h2 : ∀ M' : List Int, (∀ x ∈ M', 0 ≤ x) → j ∉ M' → wTot (l.set j.toNat 0) M' = wTot l M' := by
   intro M' hp hm
   induction M' with
   | nil => rfl
   | cons x M' ih =>
    have hx := hp x (by simp)
    have hne : j ≠ x := fun e => hm (by simp [e])
    rw [wTot, wTot, ih (fun y hy => hp y (by simp [hy])) fun hy => hm (by simp [hy]), getD_set_ne (by omega)]
  rw [wZero, h1, rSum_set _ _ _ (by omega), h2 M (fun x hx => (h x (by simp [hx])).1) h0.1, wTot]
  grind
theorem wTot_same {l l' : List Rat} : ∀ M : List Int, (∀ i ∈ M, l.getD i.toNat 0 = l'.getD i.toNat 0) → wTot l M = wTot l' M
 | [], _ => rfl
 | i :: M, h => by rw [wTot, wTot, h i (by simp), wTot_same M fun x hx => h x (by simp [hx])]
def pDis (ps : List WPool) : Prop := ps.Pairwise fun p q => ∀ i ∈ p.1, i ∉ q.1
def wPs (g : List Rat) (i : Int) : List WPool → Rat
 | [] => 0
 | p :: ps => wPayA p.2 (wTot g p.1) i + wPs g i ps
def wTots (g : List Rat) : List WPool → Rat
 | [] => 0
 | p :: ps => wTot g p.1 + wTots g ps
def inPs (i : Int) (ps : List WPool) : Prop := ∃ p ∈ ps, i ∈ p.1
theorem wTake_get : ∀ (ps : List WPool) (l : List Rat) (i : Nat), (∀ p ∈ ps, ∀ j ∈ p.1, 0 ≤ j) → (¬ inPs i ps → (wTake ps l).getD i 0 = l.getD i 0) ∧ (inPs i ps → (wTake ps l).getD i 0 = 0)
 | [], l, i, _ => ⟨fun _ => rfl, fun h => by obtain ⟨p, h, _⟩ := h; cases h⟩
 | p :: ps, l, i, h => by
  obtain ⟨h1, h2⟩ := wTake_get ps (wZero p.1 l) i fun q hq => h q (by simp [hq])
  have h3 := wZero_get p.1 l i (h p (by simp))
  refine ⟨fun hn => ?_, fun hp => ?_⟩
  ·have h4 : ¬ inPs i ps := fun ⟨q, hq, hi⟩ => hn ⟨q, by simp [hq], hi⟩
   have h5 : ¬ (i : Int) ∈ p.1 := fun hi => hn ⟨p, by simp, hi⟩
   rw [wTake, h1 h4, h3, if_neg h5]
  by_cases h4 : inPs i ps
  ·rw [wTake, h2 h4]
  obtain ⟨q, hq, hi⟩ := hp
  rcases List.mem_cons.1 hq with rfl | hq
  ·rw [wTake, h1 h4, h3, if_pos hi]
  exact absurd ⟨q, hq, hi⟩ h4
theorem wTake_sum {cs : List GClaim} : ∀ (ps : List WPool) (l : List Rat), (∀ p ∈ ps, pLad cs p) → pDis ps → l.length = cs.length → rSum (wTake ps l) = rSum l - wTots l ps
 | [], l, _, _, _ => by simp only [wTake, wTots]; grind
 | p :: ps, l, h, hd, hl => by
  have hp := h p (by simp)
  have hd' := List.pairwise_cons.1 hd
  have h1 := wTake_sum ps (wZero p.1 l) (fun q hq => h q (by simp [hq])) hd'.2 (by rw [wZero_len]; exact hl)
  have h2 := wZero_sum p.1 l hp.nd fun j hj => by have := hp.inn j hj; omega
  have h3 : ∀ qs : List WPool, (∀ q ∈ qs, pLad cs q) → (∀ q ∈ qs, ∀ i ∈ p.1, i ∉ q.1) → wTots (wZero p.1 l) qs = wTots l qs := by
   intro qs hq hx
   induction qs with
   | nil => rfl
   | cons q qs ih =>
    rw [wTots, wTots, ih (fun y hy => hq y (by simp [hy])) fun y hy => hx y (by simp [hy])]
    rw [wTot_same q.1 fun i hi => ?_]
    have h4 := (hq q (by simp)).inn i hi
    have h5 := wZero_get p.1 l i.toNat fun j hj => (hp.inn j hj).1
    rw [h5, if_neg]
    rw [Int.toNat_of_nonneg h4.1]
    exact fun hm => hx q (by simp) i hm hi
  rw [wTake, h1, h2, h3 ps (fun q hq => h q (by simp [hq])) hd'.1, wTots]
  grind
theorem wPools_get (g : List Rat) (i : Int) (hi : i = -1 ∨ 0 ≤ i) : ∀ (ps : List WPool) (R : WR), (∀ p ∈ ps, ∀ t ∈ p.2, wIn R.cl.length t) → (wPools g ps R).get i = R.get i + wPs g i ps
 | [], R, _ => by simp only [wPools, wPs]; grind
 | p :: ps, R, h => by
  have h1 := wPools_get g i hi ps (wPay p.2 (wTot g p.1) R) (by rw [wPay_len]; exact fun q hq => h q (by simp [hq]))
  rw [wPools, h1, wPay_get i hi _ _ _ (h p (by simp)), wPs]
  grind
theorem pLad_in {cs : List GClaim} {p : WPool} (h : pLad cs p) {n : Nat} (hn : n = cs.length) : ∀ t ∈ p.2, wIn n t := fun t ht x hx => by
 subst hn
 rcases h.rin t ht x hx with h1 | h1
 ·exact .inl h1
 exact .inr (h.inn _ h1)
theorem wAt_none (i : Int) : ∀ t : WT, (∀ x ∈ t, x.1 ≠ i) → wAt i t = 0
 | [], _ => rfl
 | p :: t, h => by
  rw [wAt, wAt_none i t fun x hx => h x (by simp [hx]), if_neg (h p (by simp))]; grind
theorem wPs_out {cs : List GClaim} (g : List Rat) (i : Nat) : ∀ ps : List WPool, (∀ p ∈ ps, pLad cs p) → ¬ inPs i ps → wPs g i ps = 0
 | [], _, _ => rfl
 | p :: ps, h, hn => by
  have hp := h p (by simp)
  rw [wPs, wPs_out g i ps (fun q hq => h q (by simp [hq])) fun ⟨q, hq, hi⟩ => hn ⟨q, by simp [hq], hi⟩,
   wPayA_zero _ _ _ fun t ht => wAt_none _ t fun x hx e => ?_]
  ·grind
  rcases hp.rin t ht x hx with h1 | h1
  ·omega
  exact hn ⟨p, by simp, by rw [← e]; exact h1⟩
structure eOK (e : GEst) : Prop where
 cl : wEst e.claims
 ag : ∀ a ∈ e.agrs, aOK e.claims.length a
 ds : pDis (wLay e).pools
theorem am_getD (cs : List GClaim) (k : Nat) (h : k < cs.length) : (cs.map fun c => qOf c.amount).getD k 0 = qOf cs[k].amount := by
 rw [List.getD_eq_getElem?_getD, List.getElem?_map, List.getElem?_eq_getElem h]; rfl
theorem getD_out {l : List Rat} {i : Nat} (h : l.length ≤ i) : l.getD i 0 = 0 := by
 rw [List.getD_eq_getElem?_getD, List.getElem?_eq_none h]; rfl
theorem gross_bounds {e : GEst} {m : Rat} (h : wEst e.claims) (hm : 0 ≤ m) (i : Nat) : 0 ≤ (wGross (wLay e) m).getD i 0 ∧ (wGross (wLay e) m).getD i 0 ≤ (e.claims.map fun c => qOf c.amount).getD i 0 := by
 by_cases hi : i < e.claims.length
 ·rw [gross_at h i hi, am_getD _ i hi]
  have h1 := h.am _ (List.getElem_mem hi)
  obtain ⟨h2, h3⟩ := wFr_bounds (wRanks e.claims) m e.claims[i].rank.toNat hm
  have h4 := Rat.mul_nonneg h1 h2
  have h5 : qOf e.claims[i].amount * wFr (wRanks e.claims) m e.claims[i].rank.toNat ≤ qOf e.claims[i].amount * 1 := Rat.mul_le_mul_of_nonneg_left h3 h1
  unfold gFr
  exact ⟨h4, by grind⟩
 rw [getD_out (by rw [gross_len]; omega), getD_out (by simpa using Nat.le_of_not_lt hi)]
 grind
theorem nn_getD {l : List Rat} (h : ∀ i : Nat, 0 ≤ l.getD i 0) : rNN l := fun x hx => by
 obtain ⟨i, hi, rfl⟩ := List.getElem_of_mem hx
 have := h i
 rw [List.getD_eq_getElem?_getD, List.getElem?_eq_getElem hi] at this
 exact this
theorem gross_nn {e : GEst} {m : Rat} (h : wEst e.claims) (hm : 0 ≤ m) : rNN (wGross (wLay e) m) := nn_getD fun i => (gross_bounds h hm i).1
theorem gross_mono {e : GEst} {m n : Rat} (h : wEst e.claims) (hm : 0 ≤ m) (hmn : m ≤ n) (i : Nat) : (wGross (wLay e) m).getD i 0 ≤ (wGross (wLay e) n).getD i 0 := by
 have h1 := wPay_get (i : Int) (.inr (by omega)) (wRanks e.claims) m ⟨List.replicate e.claims.length 0, 0⟩ (by simpa using wRanks_in e.claims)
 have h2 := wPay_get (i : Int) (.inr (by omega)) (wRanks e.claims) n ⟨List.replicate e.claims.length 0, 0⟩ (by simpa using wRanks_in e.claims)
 have h3 := wPayA_mono (i : Int) (wRanks e.claims) m n hm hmn (wRanks_nn h.am)
 have h4 : ¬ ((i : Int) = -1) := by omega
 unfold WR.get at h1 h2
 simp only [h4, if_false, Int.toNat_natCast] at h1 h2
 unfold wGross wLay
 rw [h1, h2]
 grind
theorem lay_ok {e : GEst} (h : eOK e) : ∀ p ∈ (wLay e).pools, pLad e.claims p := fun p hp => by
 obtain ⟨a, ha, rfl⟩ := List.mem_map.1 hp
 exact wPool_ok (h.ag a ha) h.cl.am
theorem del_at {e : GEst} {m : Rat} (h : eOK e) (i : Nat) : (¬ inPs i (wLay e).pools → (wDel (wLay e) m).cl.getD i 0 = (wGross (wLay e) m).getD i 0) ∧ (inPs i (wLay e).pools → (wDel (wLay e) m).cl.getD i 0 = wPs (wGross (wLay e) m) i (wLay e).pools) := by
 have hl := lay_ok h
 have h1 := wPools_get (wGross (wLay e) m) (i : Int) (.inr (by omega)) (wLay e).pools ⟨wTake (wLay e).pools (wGross (wLay e) m), 0⟩ fun p hp => pLad_in (hl p hp) (by rw [wTake_len, gross_len])
 have h2 := wTake_get (wLay e).pools (wGross (wLay e) m) i fun p hp j hj => ((hl p hp).inn j hj).1
 have h4 : ¬ ((i : Int) = -1) := by omega
 unfold WR.get at h1
 simp only [h4, if_false, Int.toNat_natCast] at h1
 unfold wDel
 refine ⟨fun hn => ?_, fun hn => ?_⟩
 ·rw [h1, h2.1 hn, wPs_out _ i _ hl hn]; grind
 rw [h1, h2.2 hn]; grind
theorem del_rv {e : GEst} {m : Rat} (h : eOK e) : (wDel (wLay e) m).rv = wPs (wGross (wLay e) m) (-1) (wLay e).pools := by
 have hl := lay_ok h
 have h1 := wPools_get (wGross (wLay e) m) (-1) (.inl rfl) (wLay e).pools ⟨wTake (wLay e).pools (wGross (wLay e) m), 0⟩ fun p hp => pLad_in (hl p hp) (by rw [wTake_len, gross_len])
 unfold WR.get at h1
 simp only [if_true] at h1
 unfold wDel
 rw [h1]; grind
def frP (c : Int) : List GPart → Bool
 | [] => true
 | p :: l => if p.claim = c then false else frP c l
def frT (c : Int) : List (List GPart) → Bool
 | [] => true
 | t :: l => if frP c t = true then frT c l else false
def frA (c : Int) : List GAgr → Bool
 | [] => true
 | a :: l => if frT c a = true then frA c l else false
def tkL (i c : Int) : List Leg → Bool
 | [] => false
 | x :: l => if x.1 = i then (if x.2 = c then true else tkL i c l) else tkL i c l
def tkD (i c : Int) : List GDebt → Bool
 | [] => false
 | d :: l => if tkL i c d.legs = true then true else tkD i c l
def F7 := And.intro zS (And.intro tf1 (And.intro tf20 (And.intro tf6 (And.intro tf2 (And.intro tf23 (And.intro tf0 (And.intro tf8 (And.intro tf30 (And.intro tf9 (And.intro tf10 (And.intro tf31 (And.intro tf3 (And.intro tf33 (And.intro tf11 (And.intro tf12 (And.intro tf35 (tf5)))))))))))))))))
set_option maxHeartbeats 4000000 in
theorem free_A (e : GEst) (c : Int) (hn : e.agrs.length ≤ 1000000000000) (he : ∀ a ∈ e.agrs, a.length ≤ 1000000000000 ∧ ∀ t ∈ a, t.length ≤ 1000000000000) : ACall Tryz.prog 99 [.agg (cEst e), .one (.lit (.int .i64 c))] (one (.bool (frA c e.agrs))) := by
 refine acall_of Tryz.func99 rfl (by decide) (N := 38) rfl (by simp) (R := [.tmp 4]) rfl fun en k0 => ?_
 refine awN ?_
 simp only [(id F7), seval, cEst]
 repeat refine ob ?_
 refine awN ?_
 simp only [(id F7), seval, cEst]
 repeat refine ob ?_
 refine awp_keep [1, 2, 12, 13, 14] [2] ?_
 try unfold Later
 try simp only [(id F7), seval, cEst]
 repeat' first|apply awS|apply awB
 refine awp_loopw (fun n st => ∃ k0 nx, k0 ≤ e.agrs.length ∧ n = e.agrs.length - k0 ∧ frA c (e.agrs.drop k0) = frA c e.agrs ∧ st = ⟨mkT [(1, one (.int .i64 c)), (2, .val (.one (.ptr 2 0 0))), (12, .val (.one (.sh 1 e.agrs.length (flat cAgr e.agrs)))), (13, one (.int .i64 e.agrs.length)), (14, one (.int .i64 k0))], mkH [(2, ⟨0, 36, 5, 1, cEst e⟩)], nx, 0⟩) (e.agrs.length) ⟨0, _, by omega, by omega, by rfl, rfl⟩ ?_
 rintro n0 st ⟨k0, nx0, hk0, rfl, hL0, rfl⟩
 by_cases hlt0 : k0 < e.agrs.length
 ·skip
  have hI0 : (k0 : Int) < (e.agrs.length : Int) := by omega
  have hat0 := flat_at cAgr_len e.agrs k0 hlt0
  try rw [Nat.mul_one] at hat0
  rw [List.drop_eq_getElem_cons hlt0] at hL0
  have hA := he _ (List.getElem_mem hlt0)
  generalize e.agrs[k0] = a at *
  simp only [frA] at hL0
  refine awN ?_
  simp only [(id F7), seval, cEst, hI0, hat0]
  repeat refine ob ?_
  refine awT ?_
  refine awK ?_
  simp only [(id F7), seval]
  refine awN ?_
  simp only [(id F7), seval, cEst, hI0, hat0, cAgr]
  repeat refine ob ?_
  refine awN ?_
  simp only [(id F7), seval, cEst, hI0, hat0, cAgr]
  repeat refine ob ?_
  refine awp_keep [1, 2, 12, 13, 14, 19, 20, 21] [2] ?_
  try unfold Later
  try simp only [(id F7), seval, cEst, hI0, hat0]
  repeat' first|apply awS|apply awB
  refine awp_loopw (fun n st => ∃ k1 nx, k1 ≤ a.length ∧ n = a.length - k1 ∧ frT c (a.drop k1) = frT c a ∧ st = ⟨mkT [(1, one (.int .i64 c)), (2, .val (.one (.ptr 2 0 0))), (12, .val (.one (.sh 1 e.agrs.length (flat cAgr e.agrs)))), (13, one (.int .i64 e.agrs.length)), (14, one (.int .i64 k0)), (19, .val (.one (.sh 1 a.length (flat cTier a)))), (20, one (.int .i64 a.length)), (21, one (.int .i64 k1))], mkH [(2, ⟨0, 36, 5, 1, cEst e⟩)], nx, 0⟩) (a.length) ⟨0, _, by omega, by omega, by rfl, rfl⟩ ?_
  rintro n1 st ⟨k1, nx1, hk1, rfl, hL1, rfl⟩
  by_cases hlt1 : k1 < a.length
  ·skip
   have hI1 : (k1 : Int) < (a.length : Int) := by omega
   have hat1 := flat_at cTier_len a k1 hlt1
   try rw [Nat.mul_one] at hat1
   rw [List.drop_eq_getElem_cons hlt1] at hL1
   have hn3 := hA.2 _ (List.getElem_mem hlt1)
   generalize a[k1] = t at *
   simp only [frT] at hL1
   refine awN ?_
   simp only [(id F7), seval, cEst, hI0, hat0, hI1, hat1]
   repeat refine ob ?_
   refine awT ?_
   refine awK ?_
   simp only [(id F7), seval]
   refine awN ?_
   simp only [(id F7), seval, cEst, hI0, hat0, hI1, hat1, cTier]
   repeat refine ob ?_
   refine awN ?_
   simp only [(id F7), seval, cEst, hI0, hat0, hI1, hat1]
   repeat refine ob ?_
   refine awp_keep [1, 2, 12, 13, 14, 19, 20, 21, 25, 26, 27] [2] ?_
   try unfold Later
   try simp only [(id F7), seval, cEst, hI0, hat0, hI1, hat1]
   repeat' first|apply awS|apply awB
   refine awp_loopw (fun n st => ∃ k2 nx, k2 ≤ t.length ∧ n = t.length - k2 ∧ frP c (t.drop k2) = frP c t ∧ st = ⟨mkT [(1, one (.int .i64 c)), (2, .val (.one (.ptr 2 0 0))), (12, .val (.one (.sh 1 e.agrs.length (flat cAgr e.agrs)))), (13, one (.int .i64 e.agrs.length)), (14, one (.int .i64 k0)), (19, .val (.one (.sh 1 a.length (flat cTier a)))), (20, one (.int .i64 a.length)), (21, one (.int .i64 k1)), (25, .val (.one (.sh 5 t.length (flat cPart t)))), (26, one (.int .i64 t.length)), (27, one (.int .i64 k2))], mkH [(2, ⟨0, 36, 5, 1, cEst e⟩)], nx, 0⟩) (t.length) ⟨0, _, by omega, by omega, by rfl, rfl⟩ ?_
   rintro n2 st ⟨k2, nx2, hk2, rfl, hL2, rfl⟩
   by_cases hlt2 : k2 < t.length
   ·skip
    have hI2 : (k2 : Int) < (t.length : Int) := by omega
    have hat2 := flat_at cPart_len t k2 hlt2
    try rw [Nat.mul_one] at hat2
    rw [List.drop_eq_getElem_cons hlt2] at hL2
    generalize t[k2] = p at *
    simp only [frP] at hL2
    refine awN ?_
    simp only [(id F7), seval, cEst, hI0, hat0, hI1, hat1, hI2, hat2]
    repeat refine ob ?_
    refine awT ?_
    refine awK ?_
    simp only [(id F7), seval]
    refine awN ?_
    simp only [(id F7), seval, cEst, hI0, hat0, hI1, hat1, hI2, hat2, cPart]
    repeat refine ob ?_
    by_cases h1 : p.claim = c
    ·skip
     refine awN ?_
     simp only [(id F7), seval, cEst, hI0, hat0, hI1, hat1, hI2, hat2, h1, cPart]
     repeat refine ob ?_
     refine awT ?_
     refine awN ?_
     simp only [(id F7), seval, cEst, hI0, hat0, hI1, hat1, hI2, hat2, h1]
     repeat refine ob ?_
     refine awX ?_
     (first | (simp only [(id F7), seval, cEst, hI0, hat0, hI1, hat1, hI2, hat2, h1, ← hL0, ← hL1, ← hL2]; done) | (simp only [(id F7), seval, cEst]; first | (simp [hI0, hat0, hI1, hat1, hI2, hat2, h1, ← hL0, ← hL1, ← hL2]; done) | (simp [hI0, hat0, hI1, hat1, hI2, hat2, h1]; done) | (rw [← hL0, ← hL1, ← hL2]; simp [hI0, hat0, hI1, hat1, hI2, hat2, h1]; done)))
    skip
    refine awN ?_
    simp only [(id F7), seval, cEst, hI0, hat0, hI1, hat1, hI2, hat2, h1, cPart]
    repeat refine ob ?_
    refine awF ?_
    refine awK ?_
    simp only [(id F7), seval]
    refine awN ?_
    simp only [(id F7), seval, cEst, hI0, hat0, hI1, hat1, hI2, hat2, h1]
    repeat refine ob ?_
    repeat refine ob ?_
    refine ⟨_, wk_keep [1, 2, 12, 13, 14, 19, 20, 21, 25, 26, 27] [2], t.length - (k2 + 1), by omega, k2 + 1, ?a15_nx, by omega, rfl, ?i15_0, ?st15⟩
    case st15 => (simp only [(id F7), seval, cEst]; first | rfl | (simp [Nat.add_mul]; done))
    case i15_0 => (first | exact hL2 | (rw [← hL2]; simp only [reduceIte, hI0, hat0, hI1, hat1, hI2, hat2, h1]; done) | (rw [← hL2]; simp [hI0, hat0, hI1, hat1, hI2, hat2, h1]; done) | (simp [hI0, hat0, hI1, hat1, hI2, hat2, h1] at hL2; simpa using hL2) | (rw [← hL2]; simp [*]; done))
   skip
   obtain rfl : k2 = t.length := by omega
   have hI2 : ¬ (t.length : Int) < (t.length : Int) := by omega
   rw [List.drop_length] at hL2
   simp only [frP] at hL2
   refine awN ?_
   simp only [(id F7), seval, cEst, hI0, hat0, hI1, hat1, hI2]
   repeat refine ob ?_
   refine awF ?_
   refine awQ ?_
   simp only [(id F7), seval]
   refine awN ?_
   simp only [(id F7), seval, cEst, hI0, hat0, hI1, hat1, hI2]
   repeat refine ob ?_
   repeat refine ob ?_
   refine ⟨_, wk_keep [1, 2, 12, 13, 14, 19, 20, 21] [2], a.length - (k1 + 1), by omega, k1 + 1, ?a18_nx, by omega, rfl, ?i18_0, ?st18⟩
   case st18 => (simp only [(id F7), seval, cEst]; first | rfl | (simp [Nat.add_mul]; done))
   case i18_0 => (first | exact hL1 | (rw [← hL1]; simp [hI0, hat0, hI1, hat1, hI2, ← hL2]; done) | (rw [← hL1]; simp only [reduceIte, hI0, hat0, hI1, hat1, hI2]; done) | (rw [← hL1]; simp [hI0, hat0, hI1, hat1, hI2]; done) | (simp [hI0, hat0, hI1, hat1, hI2] at hL1; simpa using hL1) | (rw [← hL1]; simp [*]; done))
  skip
  obtain rfl : k1 = a.length := by omega
  have hI1 : ¬ (a.length : Int) < (a.length : Int) := by omega
  rw [List.drop_length] at hL1
  simp only [frT] at hL1
  refine awN ?_
  simp only [(id F7), seval, cEst, hI0, hat0, hI1]
  repeat refine ob ?_
  refine awF ?_
  refine awQ ?_
  simp only [(id F7), seval]
  refine awN ?_
  simp only [(id F7), seval, cEst, hI0, hat0, hI1]
  repeat refine ob ?_
  repeat refine ob ?_
  refine ⟨_, wk_keep [1, 2, 12, 13, 14] [2], e.agrs.length - (k0 + 1), by omega, k0 + 1, ?a21_nx, by omega, rfl, ?i21_0, ?st21⟩
  case st21 => (simp only [(id F7), seval, cEst]; first | rfl | (simp [Nat.add_mul]; done))
  case i21_0 => (first | exact hL0 | (rw [← hL0]; simp [hI0, hat0, hI1, ← hL1]; done) | (rw [← hL0]; simp only [reduceIte, hI0, hat0, hI1]; done) | (rw [← hL0]; simp [hI0, hat0, hI1]; done) | (simp [hI0, hat0, hI1] at hL0; simpa using hL0) | (rw [← hL0]; simp [*]; done))
 skip
 obtain rfl : k0 = e.agrs.length := by omega
 have hI0 : ¬ (e.agrs.length : Int) < (e.agrs.length : Int) := by omega
 rw [List.drop_length] at hL0
 simp only [frA] at hL0
 refine awN ?_
 simp only [(id F7), seval, cEst, hI0]
 repeat refine ob ?_
 refine awF ?_
 refine awQ ?_
 simp only [(id F7), seval]
 refine awN ?_
 simp only [(id F7), seval, cEst, hI0]
 repeat refine ob ?_
 refine awX ?_
 (first | (simp only [(id F7), seval, cEst, hI0, ← hL0]; done) | (simp only [(id F7), seval, cEst]; first | (simp [hI0, ← hL0]; done) | (simp [hI0]; done) | (rw [← hL0]; simp [hI0]; done)))
def F8 := And.intro zS (And.intro tf90 (And.intro tf91 (And.intro tf92 (And.intro tf93 (And.intro tf94 (And.intro tf95 (And.intro tf96 (And.intro tf97 (And.intro tf98 (And.intro tf99 (And.intro tf100 (And.intro tf101 (And.intro tf12 (And.intro tf102 (tf103)))))))))))))))
set_option maxHeartbeats 4000000 in
theorem taken_A (g : GGrp) (i c : Int) (hn : g.debts.length ≤ 1000000000000) (he : ∀ d ∈ g.debts, d.legs.length ≤ 1000000000000) : ACall Tryz.prog 100 [.agg (cGrp g), .one (.lit (.int .i64 i)), .one (.lit (.int .i64 c))] (one (.bool (tkD i c g.debts))) := by
 refine acall_of Tryz.func100 rfl (by decide) (N := 37) rfl (by simp) (R := [.tmp 6]) rfl fun en k0 => ?_
 refine awN ?_
 simp only [(id F8), seval, cGrp]
 repeat refine ob ?_
 refine awN ?_
 simp only [(id F8), seval, cGrp]
 repeat refine ob ?_
 refine awp_keep [1, 2, 3, 12, 13, 14] [3] ?_
 try unfold Later
 try simp only [(id F8), seval, cGrp]
 repeat' first|apply awS|apply awB
 refine awp_loopw (fun n st => ∃ k0 nx, k0 ≤ g.debts.length ∧ n = g.debts.length - k0 ∧ tkD i c (g.debts.drop k0) = tkD i c g.debts ∧ st = ⟨mkT [(1, one (.int .i64 i)), (2, one (.int .i64 c)), (3, .val (.one (.ptr 3 0 0))), (12, .val (.one (.sh 4 g.debts.length (flat cDebt g.debts)))), (13, one (.int .i64 g.debts.length)), (14, one (.int .i64 k0))], mkH [(3, ⟨0, 28, 2, 1, cGrp g⟩)], nx, 0⟩) (g.debts.length) ⟨0, _, by omega, by omega, by rfl, rfl⟩ ?_
 rintro n0 st ⟨k0, nx0, hk0, rfl, hL0, rfl⟩
 by_cases hlt0 : k0 < g.debts.length
 ·
  have hI0 : (k0 : Int) < (g.debts.length : Int) := by omega
  have hat0 := flat_at cDebt_len g.debts k0 hlt0
  try rw [Nat.mul_one] at hat0
  rw [List.drop_eq_getElem_cons hlt0] at hL0
  have hA := he _ (List.getElem_mem hlt0)
  generalize g.debts[k0] = d at *
  simp only [tkD] at hL0
  refine awN ?_
  simp only [(id F8), seval, cGrp, hI0, hat0]
  repeat refine ob ?_
  refine awT ?_
  refine awK ?_
  simp only [(id F8), seval]
  refine awN ?_
  simp only [(id F8), seval, cGrp, hI0, hat0, cDebt]
  repeat refine ob ?_
  refine awN ?_
  simp only [(id F8), seval, cGrp, hI0, hat0, cDebt]
  repeat refine ob ?_
  refine awp_keep [1, 2, 3, 12, 13, 14, 19, 20, 21] [3] ?_
  try unfold Later
  try simp only [(id F8), seval, cGrp, hI0, hat0]
  repeat' first|apply awS|apply awB
  refine awp_loopw (fun n st => ∃ k1 nx, k1 ≤ d.legs.length ∧ n = d.legs.length - k1 ∧ tkL i c (d.legs.drop k1) = tkL i c d.legs ∧ st = ⟨mkT [(1, one (.int .i64 i)), (2, one (.int .i64 c)), (3, .val (.one (.ptr 3 0 0))), (12, .val (.one (.sh 4 g.debts.length (flat cDebt g.debts)))), (13, one (.int .i64 g.debts.length)), (14, one (.int .i64 k0)), (19, .val (.one (.sh 2 d.legs.length (flat cLeg d.legs)))), (20, one (.int .i64 d.legs.length)), (21, one (.int .i64 k1))], mkH [(3, ⟨0, 28, 2, 1, cGrp g⟩)], nx, 0⟩) (d.legs.length) ⟨0, _, by omega, by omega, by rfl, rfl⟩ ?_
  rintro n1 st ⟨k1, nx1, hk1, rfl, hL1, rfl⟩
  by_cases hlt1 : k1 < d.legs.length
  ·
   have hI1 : (k1 : Int) < (d.legs.length : Int) := by omega
   have hat1 := flat_at cLeg_len d.legs k1 hlt1
   try rw [Nat.mul_one] at hat1
   rw [List.drop_eq_getElem_cons hlt1] at hL1
   generalize d.legs[k1] = x at *
   simp only [tkL] at hL1
   refine awN ?_
   simp only [(id F8), seval, cGrp, hI0, hat0, hI1, hat1]
   repeat refine ob ?_
   refine awT ?_
   refine awK ?_
   simp only [(id F8), seval]
   refine awN ?_
   simp only [(id F8), seval, cGrp, hI0, hat0, hI1, hat1, cLeg]
   repeat refine ob ?_
   by_cases h1 : x.1 = i
   ·
    by_cases h2 : x.2 = c
    ·
     refine awR [] [none, none, none, none, none, some (29, true), some (29, true), some (29, true), some (29, true), none] ?_
     simp only [(id F8), seval, cGrp, hI0, hat0, hI1, hat1, h1, h2, cLeg]
     repeat refine ob ?_
     refine awT ?_
     refine awN ?_
     simp only [(id F8), seval, cGrp, hI0, hat0, hI1, hat1, h1, h2]
     repeat refine ob ?_
     refine awX ?_
     (first | (simp only [(id F8), seval, cGrp, hI0, hat0, hI1, hat1, h1, h2, ← hL0, ← hL1]; done) | (simp only [(id F8), seval, cGrp]; first | (simp [hI0, hat0, hI1, hat1, h1, h2, ← hL0, ← hL1]; done) | (simp [hI0, hat0, hI1, hat1, h1, h2]; done) | (rw [← hL0, ← hL1]; simp [hI0, hat0, hI1, hat1, h1, h2]; done)))
    refine awR [] [none, none, none, none, none, some (29, true), some (29, true), some (29, true), some (29, true), none] ?_
    simp only [(id F8), seval, cGrp, hI0, hat0, hI1, hat1, h1, h2, cLeg]
    repeat refine ob ?_
    refine awF ?_
    refine awK ?_
    simp only [(id F8), seval]
    refine awN ?_
    simp only [(id F8), seval, cGrp, hI0, hat0, hI1, hat1, h1, h2]
    repeat refine ob ?_
    repeat refine ob ?_
    refine ⟨_, wk_keep [1, 2, 3, 12, 13, 14, 19, 20, 21] [3], d.legs.length - (k1 + 1), by omega, k1 + 1, ?a12_nx, by omega, rfl, ?i12_0, ?st12⟩
    case st12 => (simp only [(id F8), seval, cGrp]; first | rfl | (simp [Nat.add_mul]; done))
    case i12_0 => (first | exact hL1 | (rw [← hL1]; simp only [reduceIte, hI0, hat0, hI1, hat1, h1, h2]; done) | (rw [← hL1]; simp [hI0, hat0, hI1, hat1, h1, h2]; done) | (simp [hI0, hat0, hI1, hat1, h1, h2] at hL1; simpa using hL1) | (rw [← hL1]; simp [*]; done))
   refine awR [] [none, none, none, none, none, some (29, true), some (29, true), some (29, true), some (29, true), none] ?_
   simp only [(id F8), seval, cGrp, hI0, hat0, hI1, hat1, h1, cLeg]
   repeat refine ob ?_
   refine awF ?_
   refine awK ?_
   simp only [(id F8), seval]
   refine awN ?_
   simp only [(id F8), seval, cGrp, hI0, hat0, hI1, hat1, h1]
   repeat refine ob ?_
   repeat refine ob ?_
   refine ⟨_, wk_keep [1, 2, 3, 12, 13, 14, 19, 20, 21] [3], d.legs.length - (k1 + 1), by omega, k1 + 1, ?a15_nx, by omega, rfl, ?i15_0, ?st15⟩
   case st15 => (simp only [(id F8), seval, cGrp]; first | rfl | (simp [Nat.add_mul]; done))
   case i15_0 => (first | exact hL1 | (rw [← hL1]; simp only [reduceIte, hI0, hat0, hI1, hat1, h1]; done) | (rw [← hL1]; simp [hI0, hat0, hI1, hat1, h1]; done) | (simp [hI0, hat0, hI1, hat1, h1] at hL1; simpa using hL1) | (rw [← hL1]; simp [*]; done))
  obtain rfl : k1 = d.legs.length := by omega
  have hI1 : ¬ (d.legs.length : Int) < (d.legs.length : Int) := by omega
  rw [List.drop_length] at hL1
  simp only [tkL] at hL1
  refine awN ?_
  simp only [(id F8), seval, cGrp, hI0, hat0, hI1]
  repeat refine ob ?_
  refine awF ?_
  refine awQ ?_
  simp only [(id F8), seval]
  refine awN ?_
  simp only [(id F8), seval, cGrp, hI0, hat0, hI1]
  repeat refine ob ?_
  repeat refine ob ?_
  refine ⟨_, wk_keep [1, 2, 3, 12, 13, 14] [3], g.debts.length - (k0 + 1), by omega, k0 + 1, ?a18_nx, by omega, rfl, ?i18_0, ?st18⟩
  case st18 => (simp only [(id F8), seval, cGrp]; first | rfl | (simp [Nat.add_mul]; done))
  case i18_0 => (first | exact hL0 | (rw [← hL0]; simp [hI0, hat0, hI1, ← hL1]; done) | (rw [← hL0]; simp only [reduceIte, hI0, hat0, hI1]; done) | (rw [← hL0]; simp [hI0, hat0, hI1]; done) | (simp [hI0, hat0, hI1] at hL0; simpa using hL0) | (rw [← hL0]; simp [*]; done))
 obtain rfl : k0 = g.debts.length := by omega
 have hI0 : ¬ (g.debts.length : Int) < (g.debts.length : Int) := by omega
 rw [List.drop_length] at hL0
 simp only [tkD] at hL0
 refine awN ?_
 simp only [(id F8), seval, cGrp, hI0]
 repeat refine ob ?_
 refine awF ?_
 refine awQ ?_
 simp only [(id F8), seval]
 refine awN ?_
 simp only [(id F8), seval, cGrp, hI0]
 repeat refine ob ?_
 refine awX ?_
 (first | (simp only [(id F8), seval, cGrp, hI0, ← hL0]; done) | (simp only [(id F8), seval, cGrp]; first | (simp [hI0, ← hL0]; done) | (simp [hI0]; done) | (rw [← hL0]; simp [hI0]; done)))
end Go.Proofs.YtokmkopihhnggaaGreatDoor
