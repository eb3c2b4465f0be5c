/- Plain law: a group that is built is valid; its legs are found where they stand, and there only. No walk. -/
import Derived.Test.YtogeijhepjcbgaaGreatDoorBl6M
import Derived.Test.YtogeijhepjcbgaaGreatDoorPl2M
set_option linter.unusedVariables false
set_option linter.unusedSimpArgs false
set_option linter.defProp false
set_option linter.unnecessarySimpa false
/- Plain law: a group that is built is valid; its legs are found where they stand, and there only. No walk. -/
namespace Go.Proofs.YtogeijhepjcbgaaGreatDoor
open Go Go.RowKit
theorem sgnN {q : Rat} (h : 0 ≤ q) : 0 ≤ qSgn q := by unfold qSgn qCmp; grind
def prP (n : Int) (E : Int → Bool) (p : GPart) : Prop := (p.claim = -1 ∧ p.capped = true ∨ 0 ≤ p.claim ∧ p.claim < n ∧ E p.claim = false) ∧ 0 ≤ qSgn (qOf p.cap)
theorem agT_zero {n : Int} {E : Int → Bool} (hn : 0 ≤ n) : ∀ {l : List GPart}, (∀ p ∈ l, prP n E p) → agT n E l = 0
  | [], _ => rfl
  | p :: l, h => by
    have h2 := agT_zero hn (fun q hq => h q (List.mem_cons_of_mem _ hq))
    obtain ⟨h3, h4⟩ := h p (by simp)
    simp only [agT, h2]
    rw [if_neg (by omega), if_neg (by rintro ⟨a, b⟩; rcases h3 with h3 | h3
                                      · rw [b] at h3; cases h3.2
                                      omega), if_neg (by omega), if_neg (by rintro ⟨a, b⟩; rcases h3 with h3 | h3
                                                                            · exact a h3.1
                                                                            rw [h3.2.2] at b; cases b)]
def agOK (n : Int) (pre : List GAgr) (a : GAgr) : Prop := a.length ≤ 24 ∧ (∀ t ∈ a, t.length ≤ 24) ∧ ∀ p ∈ a.flatten, prP n (fun c => mbE c pre) p
theorem agS_zero {n : Int} {pre : List GAgr} {a : GAgr} (hn : 0 ≤ n) (h : agOK n pre a) : agS n (fun c => mbE c pre) a = 0 := by
  unfold agS
  rw [if_neg (by have := h.1; omega), if_neg, agA_flat, agT_zero hn h.2.2]
  intro h1
  obtain ⟨t, ht, h2⟩ := List.any_eq_true.1 h1
  have := h.2.1 t ht
  simp only [longT, decide_eq_true_eq] at h2
  omega
def agsOK (e : GEst) : Prop := ∀ i (h : i < e.agrs.length), agOK e.claims.length (e.agrs.take i) e.agrs[i]
theorem ceAgrs_zero (e : GEst) (h : agsOK e) : ∀ (l : List GAgr) (i : Nat), l = e.agrs.drop i → ceAgrs e i l = 0
  | [], _, _ => rfl
  | a :: l, i, hl => by
    have hi : i < e.agrs.length := by
      rcases Nat.lt_or_ge i e.agrs.length with h | h
      · exact h
      rw [List.drop_eq_nil_of_le h] at hl; cases hl
    rw [List.drop_eq_getElem_cons hi] at hl
    obtain ⟨rfl, hl'⟩ := List.cons.inj hl
    have h0 := agS_zero (by omega) (h i hi)
    simp only [ceAgrs, h0, ne_eq, not_true_eq_false, if_false]
    exact ceAgrs_zero e h l (i + 1) hl'
theorem sgn_gZ : 0 ≤ qSgn (qOf gZ) := by rw [qOf_gZ]; exact sgnN (by grind)
def vC (size i : Nat) (c : GClaim) : Prop := c.holder ≠ (i : Int) ∧ -1 ≤ c.holder ∧ c.holder < (size : Int) ∧ 0 ≤ c.rank ∧ c.rank ≤ 7 ∧ 0 ≤ qSgn (qOf c.amount)
def vE (size i : Nat) (e : GEst) : Prop := 0 ≤ qSgn (qOf e.cash) ∧ (∀ c ∈ e.claims, vC size i c) ∧ agsOK e
def allI (Pr : Nat → GEst → Prop) (es : List GEst) : Prop := ∀ i (h : i < es.length), Pr i es[i]
theorem wcClaims_zero {size i : Nat} (hs : size ≤ 8) : ∀ {l : List GClaim}, (∀ c ∈ l, vC size i c) → wcClaims l = 0
  | [], _ => rfl
  | c :: l, h => by
    have h2 := wcClaims_zero hs (fun d hd => h d (List.mem_cons_of_mem _ hd))
    obtain ⟨a1, a2, a3, a4, a5, a6⟩ := h c (by simp)
    simp only [wcClaims, h2]
    rw [if_neg (by omega), if_neg (by omega), if_neg (by omega)]
theorem ceSpec_zero {size i : Nat} {e : GEst} (hs : size ≤ 8) (h : vE size i e) (hc : e.claims.length ≤ 24) (ha : e.agrs.length ≤ 12) : ceSpec e = 0 := by
  unfold ceSpec
  rw [if_neg (by omega), if_neg (by have := h.1; omega), wcClaims_zero hs h.2.1]
  simp only [ne_eq, not_true_eq_false, if_false]
  exact ceAgrs_zero e h.2.2 _ 0 (by simp)
theorem cgEsts_zero : ∀ {l : List GEst}, (∀ e ∈ l, ceSpec e = 0) → cgEsts l = 0
  | [], _ => rfl
  | e :: l, h => by
    simp only [cgEsts, h e (by simp), ne_eq, not_true_eq_false, if_false]
    exact cgEsts_zero fun x hx => h x (List.mem_cons_of_mem _ hx)
theorem gcHold_zero {n i : Int} : ∀ {l : List GClaim}, (∀ c ∈ l, c.holder ≠ i ∧ c.holder < n) → gcHold n i l = false
  | [], _ => rfl
  | c :: l, h => by
    have h1 := h c (by simp)
    simp only [gcHold, gcHold_zero fun d hd => h d (List.mem_cons_of_mem _ hd), Bool.or_false, Bool.or_eq_false_iff, decide_eq_false_iff_not]
    exact ⟨h1.1, by omega⟩
theorem gcHolds_zero {n : Int} : ∀ {l : List GEst} {i : Nat}, (∀ k (h : k < l.length), ∀ c ∈ l[k].claims, c.holder ≠ ((i + k : Nat) : Int) ∧ c.holder < n) → gcHolds n i l = false
  | [], _, _ => rfl
  | e :: l, i, h => by
    have h1 := gcHolds_zero (l := l) (i := i + 1) (n := n) fun k hk c hc => by
      have := h (k + 1) (by simpa using hk) c (by simpa using hc)
      rwa [Nat.add_assoc, Nat.add_comm 1]
    have e1 : ((i : Nat) : Int) + 1 = ((i + 1 : Nat) : Int) := by omega
    simp only [gcHolds, e1, h1, Bool.or_false]
    exact gcHold_zero (h 0 (by simp))
def legsOf (ds : List GDebt) : List Leg := (ds.map GDebt.legs).flatten
theorem legsOf_mid (pre post : List GDebt) (d : GDebt) : legsOf (pre ++ d :: post) = legsOf pre ++ (d.legs ++ legsOf post) := by simp [legsOf]
theorem lgD_none (l0 : Leg) : ∀ (ds : List GDebt) (i : Nat), lgD l0 ds i = none ↔ l0 ∉ legsOf ds
  | [], i => by simp [lgD, legsOf]
  | d :: l, i => by
    have h := lgD_none l0 l (i + 1)
    have h2 := lgT_none l0 d.legs 0
    simp only [legsOf, List.map_cons, List.flatten_cons, List.mem_append, not_or] at h ⊢
    simp only [lgD]
    cases hx : lgT l0 d.legs 0 with
    | some j =>
      rw [hx] at h2
      simp only [reduceCtorEq, false_iff, Classical.not_not] at h2
      simp [h2]
    | none =>
      rw [hx] at h2
      simp only [true_iff] at h2
      simp only [h, h2, not_false_eq_true, true_and]
def dOK (es : List GEst) (ds : List GDebt) : Prop := (legsOf ds).Nodup ∧ (∀ l ∈ legsOf ds, inEsts es l = true) ∧ ∀ d ∈ ds, 0 ≤ qSgn (qOf d.whole) ∧ d.legs.length ≤ 4 ∧ ∃ h, ∀ l ∈ d.legs, (claimAt es l).holder = h
theorem dbL_zero (g : GGrp) (pre post : List GDebt) (d : GDebt) (hg : g.debts = pre ++ d :: post) (hn : (legsOf g.debts).Nodup) (h0 : Int) : ∀ (ls dn : List Leg), d.legs = dn ++ ls → (∀ l ∈ ls, inEsts g.ests l = true ∧ (claimAt g.ests l).holder = h0) → dbL g pre.length h0 ls dn.length = 0
  | [], _, _, _ => rfl
  | l :: ls, dn, hd, h => by
    have hb := bad_iff g pre post d dn ls l hg hd
    rw [hg, legsOf_mid, hd, List.nodup_append, List.append_assoc, List.nodup_append] at hn
    have h1 : l ∉ legsOf pre := fun hm => hn.2.2 l hm l (by simp) rfl
    have h2 : l ∉ dn := fun hm => hn.2.1.2.2 l hm l (by simp) rfl
    rw [Ne, (lgD_none l pre 0).2 h1] at hb
    have hf : lgBad (lgD l g.debts 0) pre.length dn.length = false := by
      cases hx : lgBad (lgD l g.debts 0) pre.length dn.length with
      | false => rfl
      | true => rcases hb.1 hx with h3 | h3
                · exact absurd rfl h3
                exact absurd h3 h2
    obtain ⟨k1, k2⟩ := h l (by simp)
    have ih := dbL_zero g pre post d hg (by rw [hg, legsOf_mid, hd, List.nodup_append, List.append_assoc, List.nodup_append]; exact hn) h0 ls (dn ++ [l]) (by simpa using hd) (fun x hx => h x (List.mem_cons_of_mem _ hx))
    rw [List.length_append, List.length_singleton] at ih
    simp only [dbL, k1, k2, hf, ih]
    simp
theorem cgDebts_zero (g : GGrp) (h : dOK g.ests g.debts) : ∀ (l pre : List GDebt), g.debts = pre ++ l → cgDebts g l pre.length = 0
  | [], _, _ => rfl
  | d :: l, pre, hg => by
    have hd : d ∈ g.debts := by rw [hg]; simp
    obtain ⟨h1, h2, h0, h3⟩ := h.2.2 d hd
    have hz : dbS g pre.length d = 0 := by
      unfold dbS
      rw [if_neg (by omega), if_neg (by omega)]
      refine dbL_zero g pre l d hg h.1 _ d.legs [] rfl fun x hx => ⟨h.2.1 x ?_, ?_⟩
      · rw [hg, legsOf_mid]; simp [hx]
      rw [h3 x hx]
      refine (h3 _ ?_).symm
      cases hl : d.legs with
      | nil => rw [hl] at hx; cases hx
      | cons a t => simp
    simp only [cgDebts, hz, ne_eq, not_true_eq_false, if_false]
    have := cgDebts_zero g h l (pre ++ [d]) (by simpa using hg)
    rwa [List.length_append, List.length_singleton] at this
theorem cg_valid (g : GGrp) (size : Nat) (hs : size ≤ 8) (hl : g.ests.length = size) (hE : allI (vE size) g.ests) (hB : ∀ e ∈ g.ests, e.claims.length ≤ 24 ∧ e.agrs.length ≤ 12) (hd : dOK g.ests g.debts) (hn : g.debts.length ≤ 16) : cgSpec g = 0 := by
  unfold cgSpec
  rw [if_neg (by omega), cgEsts_zero]
  · simp only [ne_eq, not_true_eq_false, if_false]
    rw [if_neg]
    · exact cgDebts_zero g hd g.debts [] rfl
    have := gcHolds_zero (n := (g.ests.length : Int)) (l := g.ests) (i := 0) fun k hk c hc => by
      obtain ⟨a1, a2, a3, _⟩ := (hE k hk).2.1 c hc
      rw [Nat.zero_add, hl]
      exact ⟨a1, a3⟩
    have h0 : ((0 : Nat) : Int) = 0 := rfl
    rw [h0] at this
    rw [this]; simp
  intro e he
  obtain ⟨i, hi, rfl⟩ := List.getElem_of_mem he
  exact ceSpec_zero hs (hE i hi) (hB _ he).1 (hB _ he).2
end Go.Proofs.YtogeijhepjcbgaaGreatDoor
