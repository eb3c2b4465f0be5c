/- The groups that are built: short numbers, few elements. No program in sight. -/
import Derived.Test.YtogeijhepjcbgaaGreatDoorBl5M
import Derived.Test.YtogeijhepjcbgaaGreatDoorFewM
import Derived.Test.YtogeijhepjcbgaaGreatDoorPl2M
import Derived.Test.YtogeijhepjcbgaaGreatDoorBl4M
import Derived.Test.YtogeijhepjcbgaaGreatDoorLawM
import Derived.Test.YtogeijhepjcbgaaGreatDoorGu1M
import Derived.Test.YtogeijhepjcbgaaGreatDoorNumM
set_option linter.unusedVariables false
set_option linter.unusedSimpArgs false
set_option linter.defProp false
set_option linter.unnecessarySimpa false
section
/- The groups that are built: short numbers, few elements. No program in sight. -/
namespace Go.Proofs.YtogeijhepjcbgaaGreatDoor
open Go Go.RowKit
theorem ratOK_gZ : ratOK gZ := ⟨by decide, by decide⟩
theorem ratOK_enc {q : Rat} (h : qB 1 q) : ratOK (enc q) := by
  have := sB_enc h
  unfold ratOK sB at *
  omega
theorem qB_small (n : Nat) (h : n < 256) : qB 1 (((n : Nat) : Int) : Rat) := ⟨by simp; omega, by simp⟩
def okQ (e : GEst) : Prop := ratOK e.cash ∧ (∀ c ∈ e.claims, ratOK c.amount) ∧ ∀ a ∈ e.agrs, ∀ t ∈ a, ∀ p ∈ t, ratOK p.cap
theorem okQ_zt : okQ ztEst := ⟨ratOK_gZ, by simp [ztEst], by simp [ztEst]⟩
theorem mkEst_okQ (cash : List Nat) (i : Nat) : okQ (mkEst cash i) := by
  refine ⟨?_, by simp [mkEst], by simp [mkEst]⟩
  unfold mkEst
  dsimp only
  split
  · exact ratOK_enc (amt_qB _)
  · exact ratOK_gZ
theorem addClaim_okQ (size : Nat) (es : List GEst) (x : N4) (h : ∀ e ∈ es, okQ e) : ∀ e ∈ addClaim size es x, okQ e := by
  unfold addClaim
  split
  · exact h
  · have h0 := getD_ok h okQ_zt (x.a % size)
    generalize es.getD (x.a % size) ztEst = e at *
    refine set_ok h _ ⟨h0.1, fun c hc => ?_, h0.2.2⟩
    rcases List.mem_append.1 hc with h1 | h1
    · exact h0.2.1 c h1
    · obtain rfl : c = mkClaim size x := by simpa using h1
      exact ratOK_enc (amt_qB _)
def okT (T : T3) : Prop := (∀ p ∈ T.a, ratOK p.cap) ∧ (∀ p ∈ T.b, ratOK p.cap) ∧ ∀ p ∈ T.c, ratOK p.cap
theorem put_okT (T : T3) (x : Nat) (p : GPart) (h : okT T) (hp : ratOK p.cap) : okT (T.put x p) := by
  unfold T3.put
  have key : ∀ l : List GPart, (∀ q ∈ l, ratOK q.cap) → ∀ q ∈ l ++ [p], ratOK q.cap := fun l hl q hq => by
    rcases List.mem_append.1 hq with h1 | h1
    · exact hl q h1
    · obtain rfl : q = p := by simpa using h1
      exact hp
  split
  · exact ⟨key _ h.1, h.2.1, h.2.2⟩
  · split
    · exact ⟨h.1, key _ h.2.1, h.2.2⟩
    · exact ⟨h.1, h.2.1, key _ h.2.2⟩
theorem bgP_ok (p : N3) (i : Nat) : ratOK (bgP p i).cap := by
  unfold bgP
  split
  · exact ratOK_enc (qB_small _ (by omega))
  · exact ratOK_gZ
theorem bgL_okT (agrs : List GAgr) (p : N3) : ∀ (l : List GClaim) (i : Nat) (T : T3), okT T → okT (bgL agrs p l i T)
  | [], _, _, h => h
  | _ :: l, i, T, h => by
    refine bgL_okT agrs p l (i + 1) _ ?_
    unfold bgS
    split
    · exact h
    · split
      · exact put_okT _ _ _ h (bgP_ok p i)
      · exact h
theorem bgN_okQ (e : GEst) (p : N3) : ∀ t ∈ bgN e p, ∀ q ∈ t, ratOK q.cap := by
  have h1 : okT (bgT p (bgL e.agrs p e.claims 0 ⟨[], [], []⟩)) := by
    have h0 := bgL_okT e.agrs p e.claims 0 ⟨[], [], []⟩ ⟨by simp, by simp, by simp⟩
    unfold bgT
    split
    · exact put_okT _ _ _ h0 (ratOK_enc (qB_small _ (by omega)))
    · exact h0
  intro t ht q hq
  simp only [bgN, List.mem_cons, List.not_mem_nil, or_false] at ht
  rcases ht with rfl | rfl | rfl
  · exact h1.1 q hq
  · exact h1.2.1 q hq
  · exact h1.2.2 q hq
theorem addAg_okQ (size : Nat) (es : List GEst) (p : N3) (h : ∀ e ∈ es, okQ e) : ∀ e ∈ addAg size es p, okQ e := by
  unfold addAg
  split
  · have h0 := getD_ok h okQ_zt (p.a % size)
    generalize es.getD (p.a % size) ztEst = e at *
    refine set_ok h _ ⟨h0.1, h0.2.1, fun a ha t ht q hq => ?_⟩
    rcases List.mem_append.1 ha with h1 | h1
    · exact h0.2.2 a h1 t ht q hq
    · obtain rfl : a = bgN e p := by simpa using h1
      exact bgN_okQ e p t ht q hq
  · exact h
theorem foldl_ok {α : Type} {Pr : GEst → Prop} (f : List GEst → α → List GEst) (hf : ∀ es x, (∀ e ∈ es, Pr e) → ∀ e ∈ f es x, Pr e) : ∀ (l : List α) (es : List GEst), (∀ e ∈ es, Pr e) → ∀ e ∈ l.foldl f es, Pr e
  | [], _, h => h
  | x :: l, es, h => foldl_ok f hf l (f es x) (hf es x h)
theorem foldl_lenE {α : Type} (f : List GEst → α → List GEst) (hf : ∀ es x, (f es x).length = es.length) : ∀ (l : List α) (es : List GEst), (l.foldl f es).length = es.length
  | [], _ => rfl
  | x :: l, es => (foldl_lenE f hf l (f es x)).trans (hf es x)
theorem grpE_okQ (n : Nat) (cash : List Nat) (list : List N4) (pools : List N3) : ∀ e ∈ grpE n cash list pools, okQ e :=
  foldl_ok _ (addAg_okQ _) _ _ (foldl_ok _ (addClaim_okQ _) _ _ fun e he => by
    obtain ⟨i, _, rfl⟩ := List.mem_map.1 he
    exact mkEst_okQ cash i)
theorem grpE_okB (n : Nat) (cash : List Nat) (list : List N4) (pools : List N3) : ∀ e ∈ grpE n cash list pools, okB e :=
  foldl_ok _ (addAg_ok _) _ _ fun e he => by
    have h := foldl_ok (Pr := okC) (addClaim (1 + n % 4)) (addClaim_ok _) list _ (fun e he => by
      obtain ⟨i, _, rfl⟩ := List.mem_map.1 he
      exact ⟨by simp [mkEst], rfl⟩) e he
    exact ⟨h.1, by rw [h.2]; simp, by rw [h.2]; simp⟩
theorem grpE_len (n : Nat) (cash : List Nat) (list : List N4) (pools : List N3) : (grpE n cash list pools).length = 1 + n % 4 := by
  unfold grpE
  rw [foldl_lenE _ (addAg_length _), foldl_lenE _ (addClaim_length _)]; simp
theorem okB_est2 {e : GEst} (h : okB e) (q : okQ e) : estOK2 e := by
  refine ⟨⟨q.1, q.2.1, by have := h.1; omega, fun a ha => ⟨fun t ht => by have := (h.2.2 a ha).2 t ht; omega, fun p hp => ?_⟩⟩, fun a ha => by have := (h.2.2 a ha).1; omega⟩
  obtain ⟨t, ht, hp⟩ := List.mem_flatten.1 hp
  exact q.2.2 a ha t ht p hp
theorem debts_ok (es : List GEst) : ∀ (l : List N3) (ds : List GDebt), (∀ d ∈ ds, ratOK d.whole ∧ d.legs.length ≤ 4) ∧ ds.length ≤ 3 → (∀ d ∈ l.foldl (addDb es) ds, ratOK d.whole ∧ d.legs.length ≤ 4) ∧ (l.foldl (addDb es) ds).length ≤ 3
  | [], _, h => h
  | x :: l, ds, h => by
    refine debts_ok es l (addDb es ds x) ?_
    unfold addDb
    split
    · refine ⟨fun d hd => ?_, by simp only [List.length_append, List.length_cons, List.length_nil]; omega⟩
      rcases List.mem_append.1 hd with h1 | h1
      · exact h.1 d h1
      · obtain rfl : d = owN ⟨es, ds⟩ x := by simpa using h1
        exact ⟨ratOK_enc (amt_qB _), owN_len _ _⟩
    · exact h
theorem grpN_ok (n : Nat) (cash : List Nat) (list : List N4) (pools debts : List N3) : grpOK2 (grpN n cash list pools debts) ∧ (grpN n cash list pools debts).debts.length ≤ 3 ∧ ∀ d ∈ (grpN n cash list pools debts).debts, d.legs.length ≤ 4 := by
  have h := debts_ok (grpE n cash list pools) debts [] ⟨by simp, by simp⟩
  exact ⟨⟨fun e he => okB_est2 (grpE_okB n cash list pools e he) (grpE_okQ n cash list pools e he), fun d hd => (h.1 d hd).1, fun d hd => by have := (h.1 d hd).2; omega⟩, h.2, fun d hd => (h.1 d hd).2⟩
end Go.Proofs.YtogeijhepjcbgaaGreatDoor
end
section
/- Plain law: a group that is built is valid; its legs are found where they stand, and there only. No walk. -/
namespace Go.Proofs.YtogeijhepjcbgaaGreatDoor
open Go Go.RowKit
theorem sgnN {q : Rat} (h : 0 ≤ q) : 0 ≤ qSgn q := by unfold qSgn qCmp; grind
def prP (n : Int) (E : Int → Bool) (p : GPart) : Prop := (p.claim = -1 ∧ p.capped = true ∨ 0 ≤ p.claim ∧ p.claim < n ∧ E p.claim = false) ∧ 0 ≤ qSgn (qOf p.cap)
theorem agT_zero {n : Int} {E : Int → Bool} (hn : 0 ≤ n) : ∀ {l : List GPart}, (∀ p ∈ l, prP n E p) → agT n E l = 0
  | [], _ => rfl
  | p :: l, h => by
    have h2 := agT_zero hn (fun q hq => h q (List.mem_cons_of_mem _ hq))
    obtain ⟨h3, h4⟩ := h p (by simp)
    simp only [agT, h2]
    rw [if_neg (by omega), if_neg (by rintro ⟨a, b⟩; rcases h3 with h3 | h3
                                      · rw [b] at h3; cases h3.2
                                      · omega), if_neg (by omega), if_neg (by rintro ⟨a, b⟩; rcases h3 with h3 | h3
                                                                              · exact a h3.1
                                                                              · rw [h3.2.2] at b; cases b)]
def agOK (n : Int) (pre : List GAgr) (a : GAgr) : Prop := a.length ≤ 24 ∧ (∀ t ∈ a, t.length ≤ 24) ∧ ∀ p ∈ a.flatten, prP n (fun c => mbE c pre) p
theorem agS_zero {n : Int} {pre : List GAgr} {a : GAgr} (hn : 0 ≤ n) (h : agOK n pre a) : agS n (fun c => mbE c pre) a = 0 := by
  unfold agS
  rw [if_neg (by have := h.1; omega), if_neg, agA_flat, agT_zero hn h.2.2]
  intro h1
  obtain ⟨t, ht, h2⟩ := List.any_eq_true.1 h1
  have := h.2.1 t ht
  simp only [longT, decide_eq_true_eq] at h2
  omega
def agsOK (e : GEst) : Prop := ∀ i (h : i < e.agrs.length), agOK e.claims.length (e.agrs.take i) e.agrs[i]
theorem ceAgrs_zero (e : GEst) (h : agsOK e) : ∀ (l : List GAgr) (i : Nat), l = e.agrs.drop i → ceAgrs e i l = 0
  | [], _, _ => rfl
  | a :: l, i, hl => by
    have hi : i < e.agrs.length := by
      rcases Nat.lt_or_ge i e.agrs.length with h | h
      · exact h
      · rw [List.drop_eq_nil_of_le h] at hl; cases hl
    rw [List.drop_eq_getElem_cons hi] at hl
    obtain ⟨rfl, hl'⟩ := List.cons.inj hl
    have h0 := agS_zero (by omega) (h i hi)
    simp only [ceAgrs, h0, ne_eq, not_true_eq_false, if_false]
    exact ceAgrs_zero e h l (i + 1) hl'
theorem frP_mb (c : Int) : ∀ l, frP c l = !mbT c l
  | [] => rfl
  | p :: l => by
    simp only [frP, mbT, frP_mb c l]
    by_cases h : p.claim = c <;> simp [h]
theorem frT_mb (c : Int) : ∀ a, frT c a = !mbA c a
  | [] => rfl
  | t :: a => by
    simp only [frT, mbA, frT_mb c a, frP_mb c t]
    cases mbT c t <;> simp
theorem frA_mb (c : Int) : ∀ l, frA c l = !mbE c l
  | [] => rfl
  | a :: l => by
    simp only [frA, mbE, frA_mb c l, frT_mb c a]
    cases mbA c a <;> simp
def tOK (Q : GPart → Prop) (T : T3) : Prop := (∀ p ∈ T.a, Q p) ∧ (∀ p ∈ T.b, Q p) ∧ ∀ p ∈ T.c, Q p
theorem put_tOK {Q : GPart → Prop} (T : T3) (x : Nat) (p : GPart) (h : tOK Q T) (hp : Q p) : tOK Q (T.put x p) := by
  unfold T3.put
  have key : ∀ l : List GPart, (∀ q ∈ l, Q q) → ∀ q ∈ l ++ [p], Q q := fun l hl q hq => by
    rcases List.mem_append.1 hq with h1 | h1
    · exact hl q h1
    · obtain rfl : q = p := by simpa using h1
      exact hp
  split
  · exact ⟨key _ h.1, h.2.1, h.2.2⟩
  · split
    · exact ⟨h.1, key _ h.2.1, h.2.2⟩
    · exact ⟨h.1, h.2.1, key _ h.2.2⟩
theorem bgL_tOK {Q : GPart → Prop} (agrs : List GAgr) (p : N3) (n : Nat) (hQ : ∀ i, i < n → frA i agrs = true → Q (bgP p i)) : ∀ (l : List GClaim) (i : Nat) (T : T3), i + l.length ≤ n → tOK Q T → tOK Q (bgL agrs p l i T)
  | [], _, _, _, h => h
  | _ :: l, i, T, hl, h => by
    rw [List.length_cons] at hl
    refine bgL_tOK agrs p n hQ l (i + 1) _ (by omega) ?_
    unfold bgS
    split
    · exact h
    · split
      · exact put_tOK _ _ _ h (hQ i (by omega) ‹_›)
      · exact h
theorem sgn_nat (n : Nat) : 0 ≤ qSgn (qOf (enc (((n : Nat) : Int) : Rat))) := by
  rw [qOf_enc]
  exact sgnN (by exact_mod_cast Nat.zero_le n)
theorem sgn_gZ : 0 ≤ qSgn (qOf gZ) := by rw [qOf_gZ]; exact sgnN (by grind)
theorem sgn_amt (x : Nat) : 0 ≤ qSgn (qOf (enc (qAmt x))) := by rw [qOf_enc]; exact sgnN (amt_nonneg x)
theorem bgP_prP (agrs : List GAgr) (p : N3) (n i : Nat) (hi : i < n) (hf : frA i agrs = true) : prP n (fun c => mbE c agrs) (bgP p i) := by
  rw [frA_mb] at hf
  have hb : mbE (i : Int) agrs = false := by simpa using hf
  unfold bgP
  split
  · exact ⟨.inr ⟨by simp, by simp; omega, hb⟩, sgn_nat _⟩
  · exact ⟨.inr ⟨by simp, by simp; omega, hb⟩, sgn_gZ⟩
theorem bgN_agOK (e : GEst) (p : N3) (h : e.claims.length ≤ 6) : agOK e.claims.length e.agrs (bgN e p) := by
  have h0 := bgN_ok e p h
  refine ⟨by omega, fun t ht => by have := h0.2 t ht; omega, fun q hq => ?_⟩
  have h1 : tOK (prP e.claims.length (fun c => mbE c e.agrs)) (bgT p (bgL e.agrs p e.claims 0 ⟨[], [], []⟩)) := by
    have h2 := bgL_tOK (Q := prP e.claims.length (fun c => mbE c e.agrs)) e.agrs p e.claims.length (fun i hi hf => bgP_prP e.agrs p _ i hi hf) e.claims 0 ⟨[], [], []⟩ (by omega) ⟨by simp, by simp, by simp⟩
    unfold bgT
    split
    · exact put_tOK _ _ _ h2 ⟨.inl ⟨rfl, rfl⟩, sgn_nat _⟩
    · exact h2
  obtain ⟨t, ht, hq⟩ := List.mem_flatten.1 hq
  simp only [bgN, List.mem_cons, List.not_mem_nil, or_false] at ht
  rcases ht with rfl | rfl | rfl
  · exact h1.1 q hq
  · exact h1.2.1 q hq
  · exact h1.2.2 q hq
def vC (size i : Nat) (c : GClaim) : Prop := c.holder ≠ (i : Int) ∧ -1 ≤ c.holder ∧ c.holder < (size : Int) ∧ 0 ≤ c.rank ∧ c.rank ≤ 7 ∧ 0 ≤ qSgn (qOf c.amount)
def vE (size i : Nat) (e : GEst) : Prop := 0 ≤ qSgn (qOf e.cash) ∧ (∀ c ∈ e.claims, vC size i c) ∧ agsOK e
def allI (Pr : Nat → GEst → Prop) (es : List GEst) : Prop := ∀ i (h : i < es.length), Pr i es[i]
theorem allI_set {Pr : Nat → GEst → Prop} {es : List GEst} (h : allI Pr es) (j : Nat) (x : GEst) (hx : j < es.length → Pr j x) : allI Pr (es.set j x) := fun i hi => by
  rw [List.getElem_set]
  split
  · rename_i hji; subst hji; exact hx (by simpa using hi)
  · exact h i (by simpa using hi)
theorem getD_at (es : List GEst) (j : Nat) (h : j < es.length) : es.getD j ztEst = es[j] := by
  rw [List.getD_eq_getElem?_getD, List.getElem?_eq_getElem h]; rfl
theorem foldl_inv {α β : Type} {Pr : β → Prop} (f : β → α → β) (hf : ∀ b x, Pr b → Pr (f b x)) : ∀ (l : List α) (b : β), Pr b → Pr (l.foldl f b)
  | [], _, h => h
  | x :: l, b, h => foldl_inv f hf l (f b x) (hf b x h)
def vE0 (size i : Nat) (e : GEst) : Prop := 0 ≤ qSgn (qOf e.cash) ∧ (∀ c ∈ e.claims, vC size i c) ∧ e.agrs = []
theorem mkClaim_v (size : Nat) (x : N4) : vC size (x.a % size) (mkClaim size x) := by
  unfold mkClaim vC
  refine ⟨?_, ?_, ?_, ?_, ?_, sgn_amt _⟩
  all_goals dsimp only
  · unfold mkHolder; split <;> omega
  · unfold mkHolder; split <;> omega
  · unfold mkHolder; split <;> omega
  · omega
  · omega
theorem addClaim_v (size : Nat) (es : List GEst) (x : N4) (h : allI (vE0 size) es) : allI (vE0 size) (addClaim size es x) := by
  unfold addClaim
  split
  · exact h
  · refine allI_set h _ _ fun hj => ?_
    rw [getD_at _ _ hj]
    obtain ⟨h1, h2, h3⟩ := h _ hj
    refine ⟨h1, fun c hc => ?_, h3⟩
    rcases List.mem_append.1 hc with hc | hc
    · exact h2 c hc
    · obtain rfl : c = mkClaim size x := by simpa using hc
      exact mkClaim_v size x
theorem mkEst_v (size i : Nat) (cash : List Nat) : vE0 size i (mkEst cash i) := by
  refine ⟨?_, by simp [mkEst], rfl⟩
  unfold mkEst
  dsimp only
  split
  · exact sgn_amt _
  · exact sgn_gZ
theorem snoc_agsOK (e : GEst) (a : GAgr) (h : agsOK e) (ha : agOK e.claims.length e.agrs a) : agsOK ⟨e.cash, e.claims, e.agrs ++ [a]⟩ := fun i hi => by
  have hi' : i < e.agrs.length + 1 := by simpa using hi
  by_cases hlt : i < e.agrs.length
  · have h1 := h i hlt
    simp only [List.getElem_append_left hlt, List.take_append_of_le_length (Nat.le_of_lt hlt)]
    exact h1
  · obtain rfl : i = e.agrs.length := by omega
    simp only [List.take_left, List.getElem_concat_length]
    exact ha
theorem addAg_v (size : Nat) (es : List GEst) (p : N3) (h : (∀ e ∈ es, okB e) ∧ allI (vE size) es) : (∀ e ∈ addAg size es p, okB e) ∧ allI (vE size) (addAg size es p) := by
  refine ⟨addAg_ok size es p h.1, ?_⟩
  unfold addAg
  split
  · refine allI_set h.2 _ _ fun hj => ?_
    rw [getD_at _ _ hj]
    obtain ⟨h1, h2, h3⟩ := h.2 _ hj
    exact ⟨h1, h2, snoc_agsOK _ _ h3 (bgN_agOK _ p (h.1 _ (List.getElem_mem hj)).1)⟩
  · exact h.2
theorem grpE_v (n : Nat) (cash : List Nat) (list : List N4) (pools : List N3) : allI (vE (1 + n % 4)) (grpE n cash list pools) := by
  unfold grpE
  refine (foldl_inv (Pr := fun es => (∀ e ∈ es, okB e) ∧ allI (vE (1 + n % 4)) es) _ (addAg_v _) _ _ ⟨fun e he => ?_, ?_⟩).2
  · have h := foldl_ok (Pr := okC) (addClaim (1 + n % 4)) (addClaim_ok _) list _ (fun e he => by
      obtain ⟨i, _, rfl⟩ := List.mem_map.1 he
      exact ⟨by simp [mkEst], rfl⟩) e he
    exact ⟨h.1, by rw [h.2]; simp, by rw [h.2]; simp⟩
  · have h := foldl_inv (Pr := allI (vE0 (1 + n % 4))) (addClaim (1 + n % 4)) (addClaim_v _) list ((List.range (1 + n % 4)).map (mkEst cash)) (fun i hi => by
      have h1 := mkEst_v (1 + n % 4) i cash
      simpa using h1)
    intro i hi
    obtain ⟨h1, h2, h3⟩ := h i hi
    exact ⟨h1, h2, fun k hk => by rw [h3] at hk; simp at hk⟩
theorem wcClaims_zero {size i : Nat} (hs : size ≤ 8) : ∀ {l : List GClaim}, (∀ c ∈ l, vC size i c) → wcClaims l = 0
  | [], _ => rfl
  | c :: l, h => by
    have h2 := wcClaims_zero hs (fun d hd => h d (List.mem_cons_of_mem _ hd))
    obtain ⟨a1, a2, a3, a4, a5, a6⟩ := h c (by simp)
    simp only [wcClaims, h2]
    rw [if_neg (by omega), if_neg (by omega), if_neg (by omega)]
theorem ceSpec_zero {size i : Nat} {e : GEst} (hs : size ≤ 8) (h : vE size i e) (hc : e.claims.length ≤ 24) (ha : e.agrs.length ≤ 12) : ceSpec e = 0 := by
  unfold ceSpec
  rw [if_neg (by omega), if_neg (by have := h.1; omega), wcClaims_zero hs h.2.1]
  simp only [ne_eq, not_true_eq_false, if_false]
  exact ceAgrs_zero e h.2.2 _ 0 (by simp)
theorem cgEsts_zero : ∀ {l : List GEst}, (∀ e ∈ l, ceSpec e = 0) → cgEsts l = 0
  | [], _ => rfl
  | e :: l, h => by
    simp only [cgEsts, h e (by simp), ne_eq, not_true_eq_false, if_false]
    exact cgEsts_zero fun x hx => h x (List.mem_cons_of_mem _ hx)
theorem gcHold_zero {n i : Int} : ∀ {l : List GClaim}, (∀ c ∈ l, c.holder ≠ i ∧ c.holder < n) → gcHold n i l = false
  | [], _ => rfl
  | c :: l, h => by
    have h1 := h c (by simp)
    simp only [gcHold, gcHold_zero fun d hd => h d (List.mem_cons_of_mem _ hd), Bool.or_false, Bool.or_eq_false_iff, decide_eq_false_iff_not]
    exact ⟨h1.1, by omega⟩
theorem gcHolds_zero {n : Int} : ∀ {l : List GEst} {i : Nat}, (∀ k (h : k < l.length), ∀ c ∈ l[k].claims, c.holder ≠ ((i + k : Nat) : Int) ∧ c.holder < n) → gcHolds n i l = false
  | [], _, _ => rfl
  | e :: l, i, h => by
    have h1 := gcHolds_zero (l := l) (i := i + 1) (n := n) fun k hk c hc => by
      have := h (k + 1) (by simpa using hk) c (by simpa using hc)
      rwa [Nat.add_assoc, Nat.add_comm 1]
    have e1 : ((i : Nat) : Int) + 1 = ((i + 1 : Nat) : Int) := by omega
    simp only [gcHolds, e1, h1, Bool.or_false]
    exact gcHold_zero (h 0 (by simp))
def legsOf (ds : List GDebt) : List Leg := (ds.map GDebt.legs).flatten
theorem legsOf_snoc (ds : List GDebt) (x : GDebt) : legsOf (ds ++ [x]) = legsOf ds ++ x.legs := by simp [legsOf]
theorem legsOf_mid (pre post : List GDebt) (d : GDebt) : legsOf (pre ++ d :: post) = legsOf pre ++ (d.legs ++ legsOf post) := by simp [legsOf]
theorem tkL_iff (i c : Int) : ∀ l : List Leg, tkL i c l = true ↔ (i, c) ∈ l
  | [] => by simp [tkL]
  | x :: l => by
    obtain ⟨a, b⟩ := x
    simp only [tkL, List.mem_cons, Prod.mk.injEq]
    by_cases h1 : a = i
    · by_cases h2 : b = c
      · simp [h1, h2]
      · simp [h1, h2, Ne.symm h2, tkL_iff i c l]
    · simp [h1, Ne.symm h1, tkL_iff i c l]
theorem tkD_iff (i c : Int) : ∀ ds : List GDebt, tkD i c ds = true ↔ (i, c) ∈ legsOf ds
  | [] => by simp [tkD, legsOf]
  | d :: l => by
    have h := tkD_iff i c l
    simp only [legsOf, List.map_cons, List.flatten_cons, List.mem_append] at h ⊢
    simp only [tkD, ← h, ← tkL_iff]
    cases tkL i c d.legs <;> simp
theorem lgD_none (l0 : Leg) : ∀ (ds : List GDebt) (i : Nat), lgD l0 ds i = none ↔ l0 ∉ legsOf ds
  | [], i => by simp [lgD, legsOf]
  | d :: l, i => by
    have h := lgD_none l0 l (i + 1)
    have h2 := lgT_none l0 d.legs 0
    simp only [legsOf, List.map_cons, List.flatten_cons, List.mem_append, not_or] at h ⊢
    simp only [lgD]
    cases hx : lgT l0 d.legs 0 with
    | some j =>
      rw [hx] at h2
      simp only [reduceCtorEq, false_iff, Classical.not_not] at h2
      simp [h2]
    | none =>
      rw [hx] at h2
      simp only [true_iff] at h2
      simp only [h, h2, not_false_eq_true, true_and]
def dOK (es : List GEst) (ds : List GDebt) : Prop := (legsOf ds).Nodup ∧ (∀ l ∈ legsOf ds, inEsts es l = true) ∧ ∀ d ∈ ds, 0 ≤ qSgn (qOf d.whole) ∧ d.legs.length ≤ 4 ∧ ∃ h, ∀ l ∈ d.legs, (claimAt es l).holder = h
def oI (es : List GEst) (debts : List GDebt) (i c : Nat) (s : OS) : Prop :=
  s.l.Nodup ∧ ∀ l ∈ s.l, (l.1 < (i : Int) ∨ l.1 = (i : Int) ∧ l.2 < (c : Int)) ∧ inEsts es l = true ∧ l ∉ legsOf debts ∧ (claimAt es l).holder = s.h
theorem oI_mono {es : List GEst} {debts : List GDebt} {i c : Nat} {s : OS} (h : oI es debts i c s) (k : Nat) : oI es debts i (c + 1) ⟨k, s.h, s.l⟩ :=
  ⟨h.1, fun l hl => ⟨by have := (h.2 l hl).1; omega, (h.2 l hl).2⟩⟩
theorem oI_add {es : List GEst} {debts : List GDebt} {i c : Nat} {s : OS} {y : GClaim} (h : oI es debts i c s) (k : Nat) (hin : inEsts es ((i : Int), (c : Int)) = true) (hy : (claimAt es ((i : Int), (c : Int))).holder = y.holder)
    (ht : ¬ tkD i c debts = true) (hs : s.l = [] ∨ y.holder = s.h) : oI es debts i (c + 1) ⟨k, y.holder, s.l ++ [((i : Int), (c : Int))]⟩ := by
  rw [tkD_iff] at ht
  refine ⟨List.nodup_append.2 ⟨h.1, by simp, fun a ha b hb => ?_⟩, fun l hl => ?_⟩
  · obtain rfl : b = ((i : Int), (c : Int)) := by simpa using hb
    rintro rfl
    have := (h.2 _ ha).1
    simp at this
  · rcases List.mem_append.1 hl with hl | hl
    · obtain ⟨h1, h2, h3, h4⟩ := h.2 l hl
      refine ⟨by omega, h2, h3, ?_⟩
      rcases hs with hs | hs
      · rw [hs] at hl; cases hl
      · show _ = y.holder
        rw [h4, hs]
    · obtain rfl : l = ((i : Int), (c : Int)) := by simpa using hl
      exact ⟨.inr ⟨rfl, by simp; omega⟩, hin, ht, hy⟩
theorem owS_I {es : List GEst} {debts : List GDebt} {i c : Nat} {s : OS} {y : GClaim} (p : N3) (h : oI es debts i c s) (hin : inEsts es ((i : Int), (c : Int)) = true) (hy : (claimAt es ((i : Int), (c : Int))).holder = y.holder) : oI es debts i (c + 1) (owS debts p i c y s) := by
  unfold owS
  split
  · exact oI_mono h s.k
  · rename_i ht
    split
    · exact oI_mono h s.k
    · split
      · split
        · rename_i hz
          exact oI_add h _ hin hy ht (.inl (List.eq_nil_of_length_eq_zero (by omega)))
        · split
          · rename_i hz; exact oI_add h _ hin hy ht (.inr hz)
          · exact oI_mono h _
      · exact oI_mono h _
theorem owC_I {es : List GEst} {debts : List GDebt} {i : Nat} {e : GEst} (p : N3) (he : es[i]? = some e) : ∀ (l : List GClaim) (c : Nat) (s : OS), l = e.claims.drop c → oI es debts i c s → ∃ c', oI es debts i c' (owC debts p i l c s)
  | [], c, s, _, h => ⟨c, h⟩
  | y :: l, c, s, hl, h => by
    have hi : c < e.claims.length := by
      rcases Nat.lt_or_ge c e.claims.length with h | h
      · exact h
      · rw [List.drop_eq_nil_of_le h] at hl; cases hl
    rw [List.drop_eq_getElem_cons hi] at hl
    obtain ⟨rfl, hl'⟩ := List.cons.inj hl
    have hg : es.getD i ztEst = e := by rw [List.getD_eq_getElem?_getD, he]; rfl
    have hil : i < es.length := (List.getElem?_eq_some_iff.1 he).1
    refine owC_I p he l (c + 1) _ hl' (owS_I p h ?_ ?_)
    · simp only [inEsts, Int.toNat_natCast, hg, Bool.and_eq_true, decide_eq_true_eq]
      omega
    · simp only [claimAt, Int.toNat_natCast, hg]
      rw [List.getD_eq_getElem?_getD, List.getElem?_eq_getElem hi]; rfl
theorem owE_I {es : List GEst} {debts : List GDebt} (p : N3) : ∀ (l : List GEst) (i : Nat) (s : OS), l = es.drop i → oI es debts i 0 s → ∃ i', oI es debts i' 0 (owE debts p l i s)
  | [], i, s, _, h => ⟨i, h⟩
  | e :: l, i, s, hl, h => by
    have hi : i < es.length := by
      rcases Nat.lt_or_ge i es.length with h | h
      · exact h
      · rw [List.drop_eq_nil_of_le h] at hl; cases hl
    rw [List.drop_eq_getElem_cons hi] at hl
    obtain ⟨rfl, hl'⟩ := List.cons.inj hl
    obtain ⟨c, h1⟩ := owC_I p (List.getElem?_eq_getElem hi) es[i].claims 0 s (by simp) h
    exact owE_I p l (i + 1) _ hl' ⟨h1.1, fun x hx => ⟨by have := (h1.2 x hx).1; omega, (h1.2 x hx).2⟩⟩
theorem rvL_perm (l : List Leg) : ∀ m, m ≤ l.length → (rvL l m).Perm l
  | 0, _ => .refl _
  | m + 1, h => by
    have ih := rvL_perm l m (by omega)
    have hl := rvL_len l m
    refine List.Perm.trans ?_ ih
    show (swp (rvL l m) m (l.length - 1 - m)).Perm (rvL l m)
    unfold swp
    have h1 : m < (rvL l m).length := by omega
    have h2 : l.length - 1 - m < (rvL l m).length := by omega
    rw [List.getD_eq_getElem?_getD, List.getD_eq_getElem?_getD, List.getElem?_eq_getElem h1, List.getElem?_eq_getElem h2]
    exact List.set_set_perm h1 h2
theorem owN_I (es : List GEst) (ds : List GDebt) (p : N3) : (owN ⟨es, ds⟩ p).legs.Nodup ∧ (∀ l ∈ (owN ⟨es, ds⟩ p).legs, inEsts es l = true ∧ l ∉ legsOf ds) ∧ ∃ h, ∀ l ∈ (owN ⟨es, ds⟩ p).legs, (claimAt es l).holder = h := by
  obtain ⟨i, h⟩ := owE_I (es := es) (debts := ds) p es 0 ⟨0, 0, []⟩ (by simp) ⟨by simp, by simp⟩
  have key : ∀ L : List Leg, L.Perm (owE ds p es 0 ⟨0, 0, []⟩).l → L.Nodup ∧ (∀ l ∈ L, inEsts es l = true ∧ l ∉ legsOf ds) ∧ ∃ h, ∀ l ∈ L, (claimAt es l).holder = h := fun L hL =>
    ⟨hL.symm.nodup h.1, fun l hl => ⟨(h.2 l (hL.mem_iff.1 hl)).2.1, (h.2 l (hL.mem_iff.1 hl)).2.2.1⟩, _, fun l hl => (h.2 l (hL.mem_iff.1 hl)).2.2.2⟩
  unfold owN
  dsimp only
  split
  · exact key _ (rvL_perm _ _ (by omega))
  · exact key _ (.refl _)
theorem addDb_v (es : List GEst) (ds : List GDebt) (p : N3) (h : dOK es ds) : dOK es (addDb es ds p) := by
  unfold addDb
  split
  · obtain ⟨a1, a2, a3⟩ := h
    obtain ⟨b1, b2, b3⟩ := owN_I es ds p
    refine ⟨?_, ?_, ?_⟩
    · rw [legsOf_snoc, List.nodup_append]
      exact ⟨a1, b1, fun x hx y hy e => (b2 y hy).2 (e ▸ hx)⟩
    · rw [legsOf_snoc]
      intro l hl
      rcases List.mem_append.1 hl with hl | hl
      · exact a2 l hl
      · exact (b2 l hl).1
    · intro d hd
      rcases List.mem_append.1 hd with hd | hd
      · exact a3 d hd
      · obtain rfl : d = owN ⟨es, ds⟩ p := by simpa using hd
        exact ⟨sgn_amt _, owN_len _ _, b3⟩
  · exact h
theorem grpN_d (n : Nat) (cash : List Nat) (list : List N4) (pools debts : List N3) : dOK (grpN n cash list pools debts).ests (grpN n cash list pools debts).debts :=
  foldl_inv (Pr := dOK (grpE n cash list pools)) _ (addDb_v _) debts [] ⟨by simp [legsOf], by simp [legsOf], by simp⟩
theorem dbL_zero (g : GGrp) (pre post : List GDebt) (d : GDebt) (hg : g.debts = pre ++ d :: post) (hn : (legsOf g.debts).Nodup) (h0 : Int) : ∀ (ls dn : List Leg), d.legs = dn ++ ls → (∀ l ∈ ls, inEsts g.ests l = true ∧ (claimAt g.ests l).holder = h0) → dbL g pre.length h0 ls dn.length = 0
  | [], _, _, _ => rfl
  | l :: ls, dn, hd, h => by
    have hb := bad_iff g pre post d dn ls l hg hd
    rw [hg, legsOf_mid, hd, List.nodup_append, List.append_assoc, List.nodup_append] at hn
    have h1 : l ∉ legsOf pre := fun hm => hn.2.2 l hm l (by simp) rfl
    have h2 : l ∉ dn := fun hm => hn.2.1.2.2 l hm l (by simp) rfl
    rw [Ne, (lgD_none l pre 0).2 h1] at hb
    have hf : lgBad (lgD l g.debts 0) pre.length dn.length = false := by
      cases hx : lgBad (lgD l g.debts 0) pre.length dn.length with
      | false => rfl
      | true => rcases hb.1 hx with h3 | h3
                · exact absurd rfl h3
                · exact absurd h3 h2
    obtain ⟨k1, k2⟩ := h l (by simp)
    have ih := dbL_zero g pre post d hg (by rw [hg, legsOf_mid, hd, List.nodup_append, List.append_assoc, List.nodup_append]; exact hn) h0 ls (dn ++ [l]) (by simpa using hd) (fun x hx => h x (List.mem_cons_of_mem _ hx))
    rw [List.length_append, List.length_singleton] at ih
    simp only [dbL, k1, k2, hf, ih]
    simp
theorem cgDebts_zero (g : GGrp) (h : dOK g.ests g.debts) : ∀ (l pre : List GDebt), g.debts = pre ++ l → cgDebts g l pre.length = 0
  | [], _, _ => rfl
  | d :: l, pre, hg => by
    have hd : d ∈ g.debts := by rw [hg]; simp
    obtain ⟨h1, h2, h0, h3⟩ := h.2.2 d hd
    have hz : dbS g pre.length d = 0 := by
      unfold dbS
      rw [if_neg (by omega), if_neg (by omega)]
      refine dbL_zero g pre l d hg h.1 _ d.legs [] rfl fun x hx => ⟨h.2.1 x ?_, ?_⟩
      · rw [hg, legsOf_mid]; simp [hx]
      · rw [h3 x hx]
        refine (h3 _ ?_).symm
        cases hl : d.legs with
        | nil => rw [hl] at hx; cases hx
        | cons a t => simp
    simp only [cgDebts, hz, ne_eq, not_true_eq_false, if_false]
    have := cgDebts_zero g h l (pre ++ [d]) (by simpa using hg)
    rwa [List.length_append, List.length_singleton] at this
theorem cg_valid (g : GGrp) (size : Nat) (hs : size ≤ 8) (hl : g.ests.length = size) (hE : allI (vE size) g.ests) (hB : ∀ e ∈ g.ests, e.claims.length ≤ 24 ∧ e.agrs.length ≤ 12) (hd : dOK g.ests g.debts) (hn : g.debts.length ≤ 16) : cgSpec g = 0 := by
  unfold cgSpec
  rw [if_neg (by omega), cgEsts_zero]
  · simp only [ne_eq, not_true_eq_false, if_false]
    rw [if_neg]
    · exact cgDebts_zero g hd g.debts [] rfl
    · have := gcHolds_zero (n := (g.ests.length : Int)) (l := g.ests) (i := 0) fun k hk c hc => by
        obtain ⟨a1, a2, a3, _⟩ := (hE k hk).2.1 c hc
        rw [Nat.zero_add, hl]
        exact ⟨a1, a3⟩
      have h0 : ((0 : Nat) : Int) = 0 := rfl
      rw [h0] at this
      rw [this]; simp
  · intro e he
    obtain ⟨i, hi, rfl⟩ := List.getElem_of_mem he
    exact ceSpec_zero hs (hE i hi) (hB _ he).1 (hB _ he).2
theorem grpN_valid (n : Nat) (cash : List Nat) (list : List N4) (pools debts : List N3) : cgSpec (grpN n cash list pools debts) = 0 :=
  cg_valid _ (1 + n % 4) (by omega) (grpE_len n cash list pools) (grpE_v n cash list pools) (fun e he => by
    have := grpE_okB n cash list pools e he
    unfold okB at this
    omega) (grpN_d n cash list pools debts) (by have := (grpN_ok n cash list pools debts).2.1; omega)
theorem lgD_at (g : GGrp) (hn : (legsOf g.debts).Nodup) (i k : Nat) (hi : i < g.debts.length) (hk : k < g.debts[i].legs.length) : lgD g.debts[i].legs[k] g.debts 0 = some (i, k) := by
  have hg : g.debts = g.debts.take i ++ g.debts[i] :: g.debts.drop (i + 1) := by rw [← List.drop_eq_getElem_cons hi, List.take_append_drop]
  have hd : g.debts[i].legs = g.debts[i].legs.take k ++ g.debts[i].legs[k] :: g.debts[i].legs.drop (k + 1) := by rw [← List.drop_eq_getElem_cons hk, List.take_append_drop]
  have hpl : (g.debts.take i).length = i := by rw [List.length_take]; omega
  have hdl : (g.debts[i].legs.take k).length = k := by rw [List.length_take]; omega
  generalize g.debts.take i = pre at *
  generalize g.debts.drop (i + 1) = post at *
  generalize g.debts[i].legs.take k = dn at *
  generalize g.debts[i].legs.drop (k + 1) = ls at *
  generalize g.debts[i].legs[k] = l at *
  generalize g.debts[i] = d at *
  rw [hg, legsOf_mid, hd, List.nodup_append, List.append_assoc, List.nodup_append] at hn
  have h1 : l ∉ legsOf pre := fun hm => hn.2.2 l hm l (by simp) rfl
  have h2 : l ∉ dn := fun hm => hn.2.1.2.2 l hm l (by simp) rfl
  rw [hg, lgD_append, (lgD_none l pre 0).2 h1]
  simp only [lgD, hd, lgT_append, (lgT_none l dn 0).2 h2, lgT, and_self, if_true, hpl, hdl, Nat.zero_add]
def celC (i : Nat) : List GClaim → Nat → List Leg
  | [], _ => []
  | _ :: l, c => ((i : Int), (c : Int)) :: celC i l (c + 1)
def celE : List GEst → Nat → List Leg
  | [], _ => []
  | e :: l, i => celC i e.claims 0 ++ celE l (i + 1)
theorem celC_mem (i : Nat) : ∀ (l : List GClaim) (c : Nat) (x : Leg), x ∈ celC i l c ↔ x.1 = (i : Int) ∧ (c : Int) ≤ x.2 ∧ x.2 < ((c + l.length : Nat) : Int)
  | [], c, x => by
    simp only [celC, List.not_mem_nil, List.length_nil, false_iff]; omega
  | y :: l, c, x => by
    obtain ⟨a, b⟩ := x
    simp only [celC, List.mem_cons, celC_mem i l (c + 1), Prod.mk.injEq, List.length_cons]
    omega
theorem celC_nodup (i : Nat) : ∀ (l : List GClaim) (c : Nat), (celC i l c).Nodup
  | [], c => by simp [celC]
  | y :: l, c => by
    simp only [celC, List.nodup_cons, celC_nodup i l (c + 1), and_true, celC_mem]
    omega
theorem celE_mem : ∀ (l : List GEst) (i : Nat) (x : Leg), x ∈ celE l i ↔ ∃ k e, l[k]? = some e ∧ x.1 = ((i + k : Nat) : Int) ∧ 0 ≤ x.2 ∧ x.2 < (e.claims.length : Int)
  | [], i, x => by simp [celE]
  | e :: l, i, x => by
    simp only [celE, List.mem_append, celC_mem, celE_mem l (i + 1) x]
    constructor
    · rintro (h | ⟨k, e', h1, h2, h3⟩)
      · exact ⟨0, e, rfl, by simpa using h.1, by omega, by have := h.2.2; omega⟩
      · exact ⟨k + 1, e', by simpa using h1, by rw [h2]; omega, h3⟩
    · rintro ⟨k, e', h1, h2, h3⟩
      cases k with
      | zero =>
        simp only [List.getElem?_cons_zero, Option.some.injEq] at h1
        subst h1
        exact .inl ⟨by simpa using h2, by omega, by omega⟩
      | succ k => exact .inr ⟨k, e', by simpa using h1, by rw [h2]; omega, h3⟩
theorem celE_nodup : ∀ (l : List GEst) (i : Nat), (celE l i).Nodup
  | [], i => by simp [celE]
  | e :: l, i => by
    simp only [celE, List.nodup_append]
    refine ⟨celC_nodup i _ 0, celE_nodup l (i + 1), fun a ha b hb => ?_⟩
    rintro rfl
    rw [celC_mem] at ha
    obtain ⟨k, e', _, h2, _⟩ := (celE_mem l (i + 1) a).1 hb
    omega
def cnC (ds : List GDebt) (i : Nat) : List GClaim → Nat → Int → Int
  | [], _, n => n
  | _ :: l, c, n => cnC ds i l (c + 1) (if lgD ((i : Int), (c : Int)) ds 0 = none then n else n - 1)
def cnE (ds : List GDebt) : List GEst → Nat → Int → Int
  | [], _, n => n
  | e :: l, i, n => cnE ds l (i + 1) (cnC ds i e.claims 0 n)
theorem cnC_eq (ds : List GDebt) (i : Nat) : ∀ (l : List GClaim) (c : Nat) (n : Int), cnC ds i l c n = n - (((celC i l c).filter fun x => decide (x ∈ legsOf ds)).length : Int)
  | [], c, n => by simp [cnC, celC]
  | y :: l, c, n => by
    simp only [cnC, celC, cnC_eq ds i l (c + 1)]
    by_cases h : ((i : Int), (c : Int)) ∈ legsOf ds
    · rw [if_neg (by rw [lgD_none]; simpa using h), List.filter_cons_of_pos (by simpa using h), List.length_cons]; omega
    · rw [if_pos (by rw [lgD_none]; simpa using h), List.filter_cons_of_neg (by simpa using h)]
theorem cnE_eq (ds : List GDebt) : ∀ (l : List GEst) (i : Nat) (n : Int), cnE ds l i n = n - (((celE l i).filter fun x => decide (x ∈ legsOf ds)).length : Int)
  | [], i, n => by simp [cnE, celE]
  | e :: l, i, n => by
    simp only [cnE, celE, cnE_eq ds l (i + 1), cnC_eq, List.filter_append, List.length_append]
    omega
theorem cn_zero (es : List GEst) (ds : List GDebt) (h : dOK es ds) : cnE ds es 0 ((legsOf ds).length : Int) = 0 := by
  rw [cnE_eq]
  have hp : ((celE es 0).filter fun x => decide (x ∈ legsOf ds)).Perm (legsOf ds) := by
    refine (List.perm_ext_iff_of_nodup ((celE_nodup es 0).filter _) h.1).2 fun a => ?_
    rw [List.mem_filter, decide_eq_true_eq]
    refine ⟨fun h => h.2, fun ha => ⟨?_, ha⟩⟩
    have hin := h.2.1 a ha
    simp only [inEsts, Bool.and_eq_true, decide_eq_true_eq] at hin
    obtain ⟨⟨⟨h1, h2⟩, h3⟩, h4⟩ := hin
    refine (celE_mem es 0 a).2 ⟨a.1.toNat, es[a.1.toNat]'(by omega), List.getElem?_eq_getElem _, by omega, h3, ?_⟩
    rwa [getD_at es _ (by omega)] at h4
  rw [hp.length_eq]; omega
end Go.Proofs.YtogeijhepjcbgaaGreatDoor
end
section
/- Plain numbers, rows of numbers and rows of fixed rows of numbers, opened as cells. -/
namespace Go.Proofs.YtogeijhepjcbgaaGreatDoor
open Go Go.RowKit Go.ChangeShapes Go.WideShapes Go.ChangeAt
theorem opensC_u8 : Opens Tryz.prog 5 (rC (fun n : Nat => [.lit (.int .u8 n)]) (· < 256)) := by
  intro H enc W fuel cs x h
  obtain ⟨n, rfl, hn⟩ := opens_u8 Tryz.underlying5 H enc W fuel cs x h
  exact ⟨n, ⟨⟨rfl, rfl⟩, trivial⟩, hn⟩
theorem opensC_u16 : Opens Tryz.prog 53 (rC cU16 (· < 65536)) := by
  intro H enc W fuel cs x h
  obtain ⟨n, rfl, hn⟩ := opens_u16 Tryz.underlying53 H enc W fuel cs x h
  exact ⟨n, ⟨⟨rfl, rfl⟩, trivial⟩, hn⟩
theorem Tryz.cellsU16 : Tryz.prog.cellsOf 53 = 1 := by kernel_rfl
theorem Tryz.cellsN4 : Tryz.prog.cellsOf 106 = 4 := by kernel_rfl
theorem Tryz.cellsN3 : Tryz.prog.cellsOf 107 = 3 := by kernel_rfl
theorem opensC_u16s : Opens Tryz.prog 22 (rC (cSl 1 cU16) (okSl (· < 65536))) := opens_sl Tryz.underlying22 Tryz.cellsU16 (by decide) cU16_len opensC_u16
def okN4 (x : N4) : Prop := x.a < 65536 ∧ x.b < 65536 ∧ x.c < 65536 ∧ x.d < 65536
def okN3 (x : N3) : Prop := x.a < 65536 ∧ x.b < 65536 ∧ x.c < 65536
theorem opensC_N4 : Opens Tryz.prog 106 (rC cN4 okN4) := by
  intro H enc W fuel cs x h
  obtain ⟨xs, m, _, _, hl, hxs, hf⟩ := DataW.trod_array Tryz.underlying106 h
  rw [Tryz.cellsN4] at hl
  simp only [Tryz.cellsU16] at hf
  match cs, hl with
  | [c0, c1, c2, c3], _ =>
    have h0 := hf 0 (by decide); rw [List.getElem?_eq_getElem (by omega)] at h0
    have h1 := hf 1 (by decide); rw [List.getElem?_eq_getElem (by omega)] at h1
    have h2 := hf 2 (by decide); rw [List.getElem?_eq_getElem (by omega)] at h2
    have h3 := hf 3 (by decide); rw [List.getElem?_eq_getElem (by omega)] at h3
    obtain ⟨a0, k0, o0⟩ := opensC_u16 H enc W _ _ _ h0
    obtain ⟨a1, k1, o1⟩ := opensC_u16 H enc W _ _ _ h1
    obtain ⟨a2, k2, o2⟩ := opensC_u16 H enc W _ _ _ h2
    obtain ⟨a3, k3, o3⟩ := opensC_u16 H enc W _ _ _ h3
    replace k0 : denVs (kAll W) [c0] _ := k0
    replace k1 : denVs (kAll W) [c1] _ := k1
    replace k2 : denVs (kAll W) [c2] _ := k2
    replace k3 : denVs (kAll W) [c3] _ := k3
    exact ⟨⟨a0, a1, a2, a3⟩, denVs.append k0 (denVs.append k1 (denVs.append k2 k3)), o0, o1, o2, o3⟩
theorem opensC_N4s : Opens Tryz.prog 23 (rC (cSl 4 cN4) (okSl okN4)) := opens_sl Tryz.underlying23 Tryz.cellsN4 (by decide) cN4_len opensC_N4
theorem opensC_N3 : Opens Tryz.prog 107 (rC cN3 okN3) := by
  intro H enc W fuel cs x h
  obtain ⟨xs, m, _, _, hl, hxs, hf⟩ := DataW.trod_array Tryz.underlying107 h
  rw [Tryz.cellsN3] at hl
  simp only [Tryz.cellsU16] at hf
  match cs, hl with
  | [c0, c1, c2], _ =>
    have h0 := hf 0 (by decide); rw [List.getElem?_eq_getElem (by omega)] at h0
    have h1 := hf 1 (by decide); rw [List.getElem?_eq_getElem (by omega)] at h1
    have h2 := hf 2 (by decide); rw [List.getElem?_eq_getElem (by omega)] at h2
    obtain ⟨a0, k0, o0⟩ := opensC_u16 H enc W _ _ _ h0
    obtain ⟨a1, k1, o1⟩ := opensC_u16 H enc W _ _ _ h1
    obtain ⟨a2, k2, o2⟩ := opensC_u16 H enc W _ _ _ h2
    replace k0 : denVs (kAll W) [c0] _ := k0
    replace k1 : denVs (kAll W) [c1] _ := k1
    replace k2 : denVs (kAll W) [c2] _ := k2
    exact ⟨⟨a0, a1, a2⟩, denVs.append k0 (denVs.append k1 k2), o0, o1, o2⟩
theorem opensC_N3s : Opens Tryz.prog 52 (rC (cSl 3 cN3) (okSl okN3)) := opens_sl Tryz.underlying52 Tryz.cellsN3 (by decide) cN3_len opensC_N3
end Go.Proofs.YtogeijhepjcbgaaGreatDoor
end
section
/- Lists of rationals; FewRats, SameRats: walked. -/
namespace Go.Proofs.YtogeijhepjcbgaaGreatDoor
open Go.RowKit
def RL (w : World) (v : Value) (l : List GRat) : Prop := rSlice 3 rRat w (LT w.heap.size) [v] l
theorem RL.below {w w' : World} {v : Value} {l : List GRat} (h : RL w v l) (hb : Below w.heap.size w w') : RL w' v l := (stays_rSlice stays_rRat).below h hb hb.size
theorem RL.drew {w : World} {v : Value} {l : List GRat} (h : RL w v l) : RL w.drew v l := h
theorem RL.open {w : World} {v : Value} {l : List GRat} (h : RL w v l) :
    ∃ a cap, v = .slice a l.length cap ∧ l.length ≤ 9223372036854775807 ∧ (l = [] ∨ ∃ b off, a = some ⟨b, off, none⟩ ∧ b < w.heap.size ∧ ∀ j (h : j < l.length), w.cell? ⟨b, off + j * 3, none⟩ = some (.bool l[j].neg) ∧ w.cell? ⟨b, off + j * 3 + 1, none⟩ = some (.string l[j].num) ∧ w.cell? ⟨b, off + j * 3 + 2, none⟩ = some (.string l[j].den) ∧ sB maxLen l[j]) := by
  obtain ⟨a, cap, hv, h1, h2, h3, h4⟩ := h
  simp only [List.cons.injEq, and_true] at hv
  refine ⟨a, cap, hv, len_le h1 h2, ?_⟩
  rcases h4 with h4 | ⟨b, off, h5, h6, h7⟩
  · exact .inl h4
  · refine .inr ⟨b, off, h5, h6, fun j hj => ?_⟩
    obtain ⟨cs, k1, k2, rfl, k3, k4⟩ := h7 j hj
    exact ⟨k2 0 (by decide), k2 1 (by decide), k2 2 (by decide), k3, k4⟩
end Go.Proofs.YtogeijhepjcbgaaGreatDoor
end
section
/- Amounts: walked; rows of rationals of the call's own. -/
namespace Go.Proofs.YtogeijhepjcbgaaGreatDoor
open Go.RowKit
theorem Tryz.infoRat : (Tryz.prog.info? 44).map (fun i => (i.zero, i.size, i.bytes)) = some (some (.agg #[.bool false, .string { data := #[] }, .string { data := #[] }]), 3, 40) := by kernel_rfl
theorem rRat_new (w : World) (S : Nat → Prop) (r : GRat) (h : sB maxLen r) : rRat w S [.bool r.neg, .string r.num, .string r.den] r := ⟨rfl, h.1, h.2⟩
theorem sB_max {m : Nat} {r : GRat} (h : sB m r) (hm : m ≤ 100000000000) : sB maxLen r := h.mono (by unfold maxLen; omega)
def cellF (rs : List GRat) (j : Nat) : Value := if j % 3 = 0 then .bool (rs.getD (j / 3) gZ).neg else if j % 3 = 1 then .string (rs.getD (j / 3) gZ).num else .string (rs.getD (j / 3) gZ).den
def OwnR (w : World) (g n : Nat) (rs : List GRat) : Prop := rs.length = n ∧ Own w g 44 (n * 3) (cellF rs)
theorem cellF0 (rs : List GRat) (k : Nat) : cellF rs (k * 3) = .bool (rs.getD k gZ).neg := by
  unfold cellF; rw [if_pos (by omega), show k * 3 / 3 = k by omega]
theorem cellF1 (rs : List GRat) (k : Nat) : cellF rs (k * 3 + 1) = .string (rs.getD k gZ).num := by
  unfold cellF; rw [if_neg (by omega), if_pos (by omega), show (k * 3 + 1) / 3 = k by omega]
theorem cellF2 (rs : List GRat) (k : Nat) : cellF rs (k * 3 + 2) = .string (rs.getD k gZ).den := by
  unfold cellF; rw [if_neg (by omega), if_neg (by omega), show (k * 3 + 2) / 3 = k by omega]
theorem OwnR.facts {w : World} {g n : Nat} {rs : List GRat} (h : OwnR w g n rs) {k : Nat} (hk : k < n) :
    w.cell? ⟨g, k * 3, none⟩ = some (.bool (rs.getD k gZ).neg) ∧ w.cell? ⟨g, k * 3 + 1, none⟩ = some (.string (rs.getD k gZ).num) ∧ w.cell? ⟨g, k * 3 + 2, none⟩ = some (.string (rs.getD k gZ).den) ∧ (∀ j, w.frozen? ⟨g, j, none⟩ = false) ∧ g < w.heap.size := by
  have h1 := h.2.cell (j := k * 3) (by omega)
  have h2 := h.2.cell (j := k * 3 + 1) (by omega)
  have h3 := h.2.cell (j := k * 3 + 2) (by omega)
  rw [cellF0] at h1
  rw [cellF1] at h2
  rw [cellF2] at h3
  exact ⟨h1, h2, h3, fun j => h.2.frozen j, h.2.lt⟩
theorem OwnR.put {w : World} {g n : Nat} {rs : List GRat} (h : OwnR w g n rs) {k : Nat} (hk : k < n) (r : GRat) :
    OwnR (((w.setCell ⟨g, k * 3, none⟩ (.bool r.neg)).setCell ⟨g, k * 3 + 1, none⟩ (.string r.num)).setCell ⟨g, k * 3 + 2, none⟩ (.string r.den)) g n (rs.set k r) := by
  refine ⟨by rw [List.length_set]; exact h.1, (((h.2.set _ _).set _ _).set _ _).congr fun j hj => ?_⟩
  have hk' : k < rs.length := by rw [h.1]; exact hk
  unfold upd
  by_cases e2 : j = k * 3 + 2
  · rw [if_pos e2, e2, cellF2]; simp [List.getD, hk']
  · rw [if_neg e2]
    by_cases e1 : j = k * 3 + 1
    · rw [if_pos e1, e1, cellF1]; simp [List.getD, hk']
    · rw [if_neg e1]
      by_cases e0 : j = k * 3
      · rw [if_pos e0, e0, cellF0]; simp [List.getD, hk']
      · rw [if_neg e0]
        have hne : ¬ k = j / 3 := by omega
        unfold cellF
        simp [List.getD, List.getElem?_set, hne]
theorem OwnR.below {w w' : World} {g n : Nat} {rs : List GRat} (h : OwnR w g n rs) (hb : Below w.heap.size w w') : OwnR w' g n rs := ⟨h.1, h.2.below hb h.2.lt⟩
theorem OwnR.alloc {w : World} {g n : Nat} {rs : List GRat} (h : OwnR w g n rs) (o : Obj) : OwnR (w.alloc o) g n rs := ⟨h.1, h.2.alloc o⟩
theorem OwnR.drew {w : World} {g n : Nat} {rs : List GRat} (h : OwnR w g n rs) : OwnR w.drew g n rs := h
theorem OwnR.other {w : World} {g g' n : Nat} {rs : List GRat} (h : OwnR w g n rs) (hne : g' ≠ g) (r : GRat) : OwnR (put3 w g' r) g n rs := ⟨h.1, ((h.2.other hne _ _).other hne _ _).other hne _ _⟩
theorem Bx.other' {w : World} {b b' p q s : Nat} {x y z : Value} {r : GRat} (h : Bx w b r) (hne : b' ≠ b) : Bx (((w.setCell ⟨b', p, none⟩ x).setCell ⟨b', q, none⟩ y).setCell ⟨b', s, none⟩ z) b r := ((Blk3.other h hne _ _).other hne _ _).other hne _ _
theorem OwnR.new (w : World) (n : Nat) : OwnR (w.alloc (.cells (madeCells #[.bool false, .string { data := #[] }, .string { data := #[] }] (n * 3)) 44)) w.heap.size n (List.replicate n gZ) := by
  refine ⟨by simp, ?_⟩
  unfold Own
  rw [heap_alloc_new]
  congr 2
  apply Array.ext
  · simp [madeCells]
  · intro i h1 h2
    have hi : i < n * 3 := by simpa using h2
    have e : (List.replicate n gZ).getD (i / 3) gZ = gZ := by simp [List.getD, List.getElem?_replicate]; split <;> rfl
    simp only [madeCells, Array.getElem_map, Array.getElem_range, cellF, e]
    have : i % 3 = 0 ∨ i % 3 = 1 ∨ i % 3 = 2 := by omega
    rcases this with h | h | h <;> simp [h] <;> rfl
theorem OwnR.reads {w : World} {g n : Nat} {rs : List GRat} (h : OwnR w g n rs) (hn : n ≤ maxLen) (hs : ∀ r ∈ rs, sB maxLen r) : RL w (.slice (some ⟨g, 0, none⟩) n n) rs := by
  refine ⟨some ⟨g, 0, none⟩, n, by rw [h.1], by rw [h.1]; exact Nat.le_refl _, hn, by simp, .inr ⟨g, 0, rfl, h.2.lt, fun j hj => ⟨[.bool rs[j].neg, .string rs[j].num, .string rs[j].den], rfl, ?_, rRat_new _ _ _ (hs _ (List.getElem_mem hj))⟩⟩⟩
  intro c hc
  obtain ⟨f0, f1, f2, _⟩ := h.facts (k := j) (by rw [← h.1]; exact hj)
  have e : rs.getD j gZ = rs[j] := by simp [List.getD, hj]
  rw [e] at f0 f1 f2
  have : c = 0 ∨ c = 1 ∨ c = 2 := by omega
  rcases this with rfl | rfl | rfl
  · simpa using f0
  · simpa using f1
  · simpa using f2
end Go.Proofs.YtogeijhepjcbgaaGreatDoor
end
