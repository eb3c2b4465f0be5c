/- The groups that are built: short numbers, few elements. No program in sight. -/
import Derived.Test.YtogeijhepjcbgaaGreatDoorBl5M
import Derived.Test.YtogeijhepjcbgaaGreatDoorFewM
import Derived.Test.YtogeijhepjcbgaaGreatDoorPl2M
set_option linter.unusedVariables false
set_option linter.unusedSimpArgs false
set_option linter.defProp false
set_option linter.unnecessarySimpa false
section
/- The groups that are built: short numbers, few elements. No program in sight. -/
namespace Go.Proofs.YtogeijhepjcbgaaGreatDoor
open Go Go.RowKit
theorem ratOK_gZ : ratOK gZ := ⟨by decide, by decide⟩
theorem ratOK_enc {q : Rat} (h : qB 1 q) : ratOK (enc q) := by
  have := sB_enc h
  unfold ratOK sB at *
  omega
theorem qB_small (n : Nat) (h : n < 256) : qB 1 (((n : Nat) : Int) : Rat) := ⟨by simp; omega, by simp⟩
def okQ (e : GEst) : Prop := ratOK e.cash ∧ (∀ c ∈ e.claims, ratOK c.amount) ∧ ∀ a ∈ e.agrs, ∀ t ∈ a, ∀ p ∈ t, ratOK p.cap
theorem okQ_zt : okQ ztEst := ⟨ratOK_gZ, by simp [ztEst], by simp [ztEst]⟩
theorem mkEst_okQ (cash : List Nat) (i : Nat) : okQ (mkEst cash i) := by
  refine ⟨?_, by simp [mkEst], by simp [mkEst]⟩
  unfold mkEst
  dsimp only
  split
  · exact ratOK_enc (amt_qB _)
  · exact ratOK_gZ
theorem addClaim_okQ (size : Nat) (es : List GEst) (x : N4) (h : ∀ e ∈ es, okQ e) : ∀ e ∈ addClaim size es x, okQ e := by
  unfold addClaim
  split
  · exact h
  · have h0 := getD_ok h okQ_zt (x.a % size)
    generalize es.getD (x.a % size) ztEst = e at *
    refine set_ok h _ ⟨h0.1, fun c hc => ?_, h0.2.2⟩
    rcases List.mem_append.1 hc with h1 | h1
    · exact h0.2.1 c h1
    · obtain rfl : c = mkClaim size x := by simpa using h1
      exact ratOK_enc (amt_qB _)
def okT (T : T3) : Prop := (∀ p ∈ T.a, ratOK p.cap) ∧ (∀ p ∈ T.b, ratOK p.cap) ∧ ∀ p ∈ T.c, ratOK p.cap
theorem put_okT (T : T3) (x : Nat) (p : GPart) (h : okT T) (hp : ratOK p.cap) : okT (T.put x p) := by
  unfold T3.put
  have key : ∀ l : List GPart, (∀ q ∈ l, ratOK q.cap) → ∀ q ∈ l ++ [p], ratOK q.cap := fun l hl q hq => by
    rcases List.mem_append.1 hq with h1 | h1
    · exact hl q h1
    · obtain rfl : q = p := by simpa using h1
      exact hp
  split
  · exact ⟨key _ h.1, h.2.1, h.2.2⟩
  · split
    · exact ⟨h.1, key _ h.2.1, h.2.2⟩
    · exact ⟨h.1, h.2.1, key _ h.2.2⟩
theorem bgP_ok (p : N3) (i : Nat) : ratOK (bgP p i).cap := by
  unfold bgP
  split
  · exact ratOK_enc (qB_small _ (by omega))
  · exact ratOK_gZ
theorem bgL_okT (agrs : List GAgr) (p : N3) : ∀ (l : List GClaim) (i : Nat) (T : T3), okT T → okT (bgL agrs p l i T)
  | [], _, _, h => h
  | _ :: l, i, T, h => by
    refine bgL_okT agrs p l (i + 1) _ ?_
    unfold bgS
    split
    · exact h
    · split
      · exact put_okT _ _ _ h (bgP_ok p i)
      · exact h
theorem bgN_okQ (e : GEst) (p : N3) : ∀ t ∈ bgN e p, ∀ q ∈ t, ratOK q.cap := by
  have h1 : okT (bgT p (bgL e.agrs p e.claims 0 ⟨[], [], []⟩)) := by
    have h0 := bgL_okT e.agrs p e.claims 0 ⟨[], [], []⟩ ⟨by simp, by simp, by simp⟩
    unfold bgT
    split
    · exact put_okT _ _ _ h0 (ratOK_enc (qB_small _ (by omega)))
    · exact h0
  intro t ht q hq
  simp only [bgN, List.mem_cons, List.not_mem_nil, or_false] at ht
  rcases ht with rfl | rfl | rfl
  · exact h1.1 q hq
  · exact h1.2.1 q hq
  · exact h1.2.2 q hq
theorem addAg_okQ (size : Nat) (es : List GEst) (p : N3) (h : ∀ e ∈ es, okQ e) : ∀ e ∈ addAg size es p, okQ e := by
  unfold addAg
  split
  · have h0 := getD_ok h okQ_zt (p.a % size)
    generalize es.getD (p.a % size) ztEst = e at *
    refine set_ok h _ ⟨h0.1, h0.2.1, fun a ha t ht q hq => ?_⟩
    rcases List.mem_append.1 ha with h1 | h1
    · exact h0.2.2 a h1 t ht q hq
    · obtain rfl : a = bgN e p := by simpa using h1
      exact bgN_okQ e p t ht q hq
  · exact h
theorem foldl_ok {α : Type} {Pr : GEst → Prop} (f : List GEst → α → List GEst) (hf : ∀ es x, (∀ e ∈ es, Pr e) → ∀ e ∈ f es x, Pr e) : ∀ (l : List α) (es : List GEst), (∀ e ∈ es, Pr e) → ∀ e ∈ l.foldl f es, Pr e
  | [], _, h => h
  | x :: l, es, h => foldl_ok f hf l (f es x) (hf es x h)
theorem foldl_lenE {α : Type} (f : List GEst → α → List GEst) (hf : ∀ es x, (f es x).length = es.length) : ∀ (l : List α) (es : List GEst), (l.foldl f es).length = es.length
  | [], _ => rfl
  | x :: l, es => (foldl_lenE f hf l (f es x)).trans (hf es x)
theorem grpE_okQ (n : Nat) (cash : List Nat) (list : List N4) (pools : List N3) : ∀ e ∈ grpE n cash list pools, okQ e :=
  foldl_ok _ (addAg_okQ _) _ _ (foldl_ok _ (addClaim_okQ _) _ _ fun e he => by
    obtain ⟨i, _, rfl⟩ := List.mem_map.1 he
    exact mkEst_okQ cash i)
theorem grpE_okB (n : Nat) (cash : List Nat) (list : List N4) (pools : List N3) : ∀ e ∈ grpE n cash list pools, okB e :=
  foldl_ok _ (addAg_ok _) _ _ fun e he => by
    have h := foldl_ok (Pr := okC) (addClaim (1 + n % 4)) (addClaim_ok _) list _ (fun e he => by
      obtain ⟨i, _, rfl⟩ := List.mem_map.1 he
      exact ⟨by simp [mkEst], rfl⟩) e he
    exact ⟨h.1, by rw [h.2]; simp, by rw [h.2]; simp⟩
theorem grpE_len (n : Nat) (cash : List Nat) (list : List N4) (pools : List N3) : (grpE n cash list pools).length = 1 + n % 4 := by
  unfold grpE
  rw [foldl_lenE _ (addAg_length _), foldl_lenE _ (addClaim_length _)]; simp
theorem okB_est2 {e : GEst} (h : okB e) (q : okQ e) : estOK2 e := by
  refine ⟨⟨q.1, q.2.1, by have := h.1; omega, fun a ha => ⟨fun t ht => by have := (h.2.2 a ha).2 t ht; omega, fun p hp => ?_⟩⟩, fun a ha => by have := (h.2.2 a ha).1; omega⟩
  obtain ⟨t, ht, hp⟩ := List.mem_flatten.1 hp
  exact q.2.2 a ha t ht p hp
theorem debts_ok (es : List GEst) : ∀ (l : List N3) (ds : List GDebt), (∀ d ∈ ds, ratOK d.whole ∧ d.legs.length ≤ 4) ∧ ds.length ≤ 3 → (∀ d ∈ l.foldl (addDb es) ds, ratOK d.whole ∧ d.legs.length ≤ 4) ∧ (l.foldl (addDb es) ds).length ≤ 3
  | [], _, h => h
  | x :: l, ds, h => by
    refine debts_ok es l (addDb es ds x) ?_
    unfold addDb
    split
    · refine ⟨fun d hd => ?_, by simp only [List.length_append, List.length_cons, List.length_nil]; omega⟩
      rcases List.mem_append.1 hd with h1 | h1
      · exact h.1 d h1
      · obtain rfl : d = owN ⟨es, ds⟩ x := by simpa using h1
        exact ⟨ratOK_enc (amt_qB _), owN_len _ _⟩
    · exact h
theorem grpN_ok (n : Nat) (cash : List Nat) (list : List N4) (pools debts : List N3) : grpOK2 (grpN n cash list pools debts) ∧ (grpN n cash list pools debts).debts.length ≤ 3 ∧ ∀ d ∈ (grpN n cash list pools debts).debts, d.legs.length ≤ 4 := by
  have h := debts_ok (grpE n cash list pools) debts [] ⟨by simp, by simp⟩
  exact ⟨⟨fun e he => okB_est2 (grpE_okB n cash list pools e he) (grpE_okQ n cash list pools e he), fun d hd => (h.1 d hd).1, fun d hd => by have := (h.1 d hd).2; omega⟩, h.2, fun d hd => (h.1 d hd).2⟩
theorem acall_args {P : Program} {f : FuncId} {args args' : List A1} {res : AV} (h : ACall P f args res) (hd : ∀ κ vs, den1s κ vs args' → den1s κ vs args) : ACall P f args' res :=
  ⟨h.1, fun w T vs hT hv => h.2 w T vs hT (hd _ _ hv)⟩
theorem den1s_cons {κ : Kx} {vs : List Value} {a : A1} {l : List A1} (h : den1s κ vs (a :: l)) : ∃ v vs', vs = v :: vs' ∧ den1 κ v a ∧ den1s κ vs' l := by
  cases vs with
  | nil => exact h.elim
  | cons v vs => exact ⟨v, vs, rfl, h.1, h.2⟩
theorem group_nil (n : Nat) (cash : List Nat) (list : List N4) (hn : n < 256) (hcs : ∀ x ∈ cash, x < 65536) (hl : ∀ x ∈ list, x.a < 65536 ∧ x.b < 65536 ∧ x.c < 65536 ∧ x.d < 65536)
    (hc0 : cash.length ≤ 9223372036854775807) (hl0 : list.length ≤ 9223372036854775807) : ACall Tryz.prog 15 [.one (.lit (.int .u8 n)), .one (.sh 1 cash.length (flat cU16 cash)), .one (.sh 4 list.length (flat cN4 list)), .one (.lit (.slice none 0 0)), .one (.lit (.slice none 0 0))] (.val (.agg (cGrp (grpN n cash list [] [])))) := by
  refine acall_args (group_A n cash list [] [] hn hcs hl (by simp) (by simp) hc0 hl0 (by simp) (by simp)) fun κ vs h => ?_
  obtain ⟨v1, vs1, rfl, d1, h⟩ := den1s_cons h
  obtain ⟨v2, vs2, rfl, d2, h⟩ := den1s_cons h
  obtain ⟨v3, vs3, rfl, d3, h⟩ := den1s_cons h
  obtain ⟨v4, vs4, rfl, d4, h⟩ := den1s_cons h
  obtain ⟨v5, vs5, rfl, d5, h⟩ := den1s_cons h
  exact ⟨d1, d2, d3, den_nilsh 3 d4, den_nilsh 3 d5, h⟩
end Go.Proofs.YtogeijhepjcbgaaGreatDoor
end
section
/- Plain law: a group that is built is valid; its legs are found where they stand, and there only. No walk. -/
namespace Go.Proofs.YtogeijhepjcbgaaGreatDoor
open Go Go.RowKit
theorem sgnN {q : Rat} (h : 0 ≤ q) : 0 ≤ qSgn q := by unfold qSgn qCmp; grind
def prP (n : Int) (E : Int → Bool) (p : GPart) : Prop := (p.claim = -1 ∧ p.capped = true ∨ 0 ≤ p.claim ∧ p.claim < n ∧ E p.claim = false) ∧ 0 ≤ qSgn (qOf p.cap)
theorem agT_zero {n : Int} {E : Int → Bool} (hn : 0 ≤ n) : ∀ {l : List GPart}, (∀ p ∈ l, prP n E p) → agT n E l = 0
  | [], _ => rfl
  | p :: l, h => by
    have h2 := agT_zero hn (fun q hq => h q (List.mem_cons_of_mem _ hq))
    obtain ⟨h3, h4⟩ := h p (by simp)
    simp only [agT, h2]
    rw [if_neg (by omega), if_neg (by rintro ⟨a, b⟩; rcases h3 with h3 | h3
                                      · rw [b] at h3; cases h3.2
                                      · omega), if_neg (by omega), if_neg (by rintro ⟨a, b⟩; rcases h3 with h3 | h3
                                                                              · exact a h3.1
                                                                              · rw [h3.2.2] at b; cases b)]
def agOK (n : Int) (pre : List GAgr) (a : GAgr) : Prop := a.length ≤ 24 ∧ (∀ t ∈ a, t.length ≤ 24) ∧ ∀ p ∈ a.flatten, prP n (fun c => mbE c pre) p
theorem agS_zero {n : Int} {pre : List GAgr} {a : GAgr} (hn : 0 ≤ n) (h : agOK n pre a) : agS n (fun c => mbE c pre) a = 0 := by
  unfold agS
  rw [if_neg (by have := h.1; omega), if_neg, agA_flat, agT_zero hn h.2.2]
  intro h1
  obtain ⟨t, ht, h2⟩ := List.any_eq_true.1 h1
  have := h.2.1 t ht
  simp only [longT, decide_eq_true_eq] at h2
  omega
def agsOK (e : GEst) : Prop := ∀ i (h : i < e.agrs.length), agOK e.claims.length (e.agrs.take i) e.agrs[i]
theorem ceAgrs_zero (e : GEst) (h : agsOK e) : ∀ (l : List GAgr) (i : Nat), l = e.agrs.drop i → ceAgrs e i l = 0
  | [], _, _ => rfl
  | a :: l, i, hl => by
    have hi : i < e.agrs.length := by
      rcases Nat.lt_or_ge i e.agrs.length with h | h
      · exact h
      · rw [List.drop_eq_nil_of_le h] at hl; cases hl
    rw [List.drop_eq_getElem_cons hi] at hl
    obtain ⟨rfl, hl'⟩ := List.cons.inj hl
    have h0 := agS_zero (by omega) (h i hi)
    simp only [ceAgrs, h0, ne_eq, not_true_eq_false, if_false]
    exact ceAgrs_zero e h l (i + 1) hl'
theorem sgn_gZ : 0 ≤ qSgn (qOf gZ) := by rw [qOf_gZ]; exact sgnN (by grind)
def vC (size i : Nat) (c : GClaim) : Prop := c.holder ≠ (i : Int) ∧ -1 ≤ c.holder ∧ c.holder < (size : Int) ∧ 0 ≤ c.rank ∧ c.rank ≤ 7 ∧ 0 ≤ qSgn (qOf c.amount)
def vE (size i : Nat) (e : GEst) : Prop := 0 ≤ qSgn (qOf e.cash) ∧ (∀ c ∈ e.claims, vC size i c) ∧ agsOK e
def allI (Pr : Nat → GEst → Prop) (es : List GEst) : Prop := ∀ i (h : i < es.length), Pr i es[i]
theorem wcClaims_zero {size i : Nat} (hs : size ≤ 8) : ∀ {l : List GClaim}, (∀ c ∈ l, vC size i c) → wcClaims l = 0
  | [], _ => rfl
  | c :: l, h => by
    have h2 := wcClaims_zero hs (fun d hd => h d (List.mem_cons_of_mem _ hd))
    obtain ⟨a1, a2, a3, a4, a5, a6⟩ := h c (by simp)
    simp only [wcClaims, h2]
    rw [if_neg (by omega), if_neg (by omega), if_neg (by omega)]
theorem ceSpec_zero {size i : Nat} {e : GEst} (hs : size ≤ 8) (h : vE size i e) (hc : e.claims.length ≤ 24) (ha : e.agrs.length ≤ 12) : ceSpec e = 0 := by
  unfold ceSpec
  rw [if_neg (by omega), if_neg (by have := h.1; omega), wcClaims_zero hs h.2.1]
  simp only [ne_eq, not_true_eq_false, if_false]
  exact ceAgrs_zero e h.2.2 _ 0 (by simp)
theorem cgEsts_zero : ∀ {l : List GEst}, (∀ e ∈ l, ceSpec e = 0) → cgEsts l = 0
  | [], _ => rfl
  | e :: l, h => by
    simp only [cgEsts, h e (by simp), ne_eq, not_true_eq_false, if_false]
    exact cgEsts_zero fun x hx => h x (List.mem_cons_of_mem _ hx)
theorem gcHold_zero {n i : Int} : ∀ {l : List GClaim}, (∀ c ∈ l, c.holder ≠ i ∧ c.holder < n) → gcHold n i l = false
  | [], _ => rfl
  | c :: l, h => by
    have h1 := h c (by simp)
    simp only [gcHold, gcHold_zero fun d hd => h d (List.mem_cons_of_mem _ hd), Bool.or_false, Bool.or_eq_false_iff, decide_eq_false_iff_not]
    exact ⟨h1.1, by omega⟩
theorem gcHolds_zero {n : Int} : ∀ {l : List GEst} {i : Nat}, (∀ k (h : k < l.length), ∀ c ∈ l[k].claims, c.holder ≠ ((i + k : Nat) : Int) ∧ c.holder < n) → gcHolds n i l = false
  | [], _, _ => rfl
  | e :: l, i, h => by
    have h1 := gcHolds_zero (l := l) (i := i + 1) (n := n) fun k hk c hc => by
      have := h (k + 1) (by simpa using hk) c (by simpa using hc)
      rwa [Nat.add_assoc, Nat.add_comm 1]
    have e1 : ((i : Nat) : Int) + 1 = ((i + 1 : Nat) : Int) := by omega
    simp only [gcHolds, e1, h1, Bool.or_false]
    exact gcHold_zero (h 0 (by simp))
def legsOf (ds : List GDebt) : List Leg := (ds.map GDebt.legs).flatten
theorem legsOf_mid (pre post : List GDebt) (d : GDebt) : legsOf (pre ++ d :: post) = legsOf pre ++ (d.legs ++ legsOf post) := by simp [legsOf]
theorem lgD_none (l0 : Leg) : ∀ (ds : List GDebt) (i : Nat), lgD l0 ds i = none ↔ l0 ∉ legsOf ds
  | [], i => by simp [lgD, legsOf]
  | d :: l, i => by
    have h := lgD_none l0 l (i + 1)
    have h2 := lgT_none l0 d.legs 0
    simp only [legsOf, List.map_cons, List.flatten_cons, List.mem_append, not_or] at h ⊢
    simp only [lgD]
    cases hx : lgT l0 d.legs 0 with
    | some j =>
      rw [hx] at h2
      simp only [reduceCtorEq, false_iff, Classical.not_not] at h2
      simp [h2]
    | none =>
      rw [hx] at h2
      simp only [true_iff] at h2
      simp only [h, h2, not_false_eq_true, true_and]
def dOK (es : List GEst) (ds : List GDebt) : Prop := (legsOf ds).Nodup ∧ (∀ l ∈ legsOf ds, inEsts es l = true) ∧ ∀ d ∈ ds, 0 ≤ qSgn (qOf d.whole) ∧ d.legs.length ≤ 4 ∧ ∃ h, ∀ l ∈ d.legs, (claimAt es l).holder = h
theorem dbL_zero (g : GGrp) (pre post : List GDebt) (d : GDebt) (hg : g.debts = pre ++ d :: post) (hn : (legsOf g.debts).Nodup) (h0 : Int) : ∀ (ls dn : List Leg), d.legs = dn ++ ls → (∀ l ∈ ls, inEsts g.ests l = true ∧ (claimAt g.ests l).holder = h0) → dbL g pre.length h0 ls dn.length = 0
  | [], _, _, _ => rfl
  | l :: ls, dn, hd, h => by
    have hb := bad_iff g pre post d dn ls l hg hd
    rw [hg, legsOf_mid, hd, List.nodup_append, List.append_assoc, List.nodup_append] at hn
    have h1 : l ∉ legsOf pre := fun hm => hn.2.2 l hm l (by simp) rfl
    have h2 : l ∉ dn := fun hm => hn.2.1.2.2 l hm l (by simp) rfl
    rw [Ne, (lgD_none l pre 0).2 h1] at hb
    have hf : lgBad (lgD l g.debts 0) pre.length dn.length = false := by
      cases hx : lgBad (lgD l g.debts 0) pre.length dn.length with
      | false => rfl
      | true => rcases hb.1 hx with h3 | h3
                · exact absurd rfl h3
                · exact absurd h3 h2
    obtain ⟨k1, k2⟩ := h l (by simp)
    have ih := dbL_zero g pre post d hg (by rw [hg, legsOf_mid, hd, List.nodup_append, List.append_assoc, List.nodup_append]; exact hn) h0 ls (dn ++ [l]) (by simpa using hd) (fun x hx => h x (List.mem_cons_of_mem _ hx))
    rw [List.length_append, List.length_singleton] at ih
    simp only [dbL, k1, k2, hf, ih]
    simp
theorem cgDebts_zero (g : GGrp) (h : dOK g.ests g.debts) : ∀ (l pre : List GDebt), g.debts = pre ++ l → cgDebts g l pre.length = 0
  | [], _, _ => rfl
  | d :: l, pre, hg => by
    have hd : d ∈ g.debts := by rw [hg]; simp
    obtain ⟨h1, h2, h0, h3⟩ := h.2.2 d hd
    have hz : dbS g pre.length d = 0 := by
      unfold dbS
      rw [if_neg (by omega), if_neg (by omega)]
      refine dbL_zero g pre l d hg h.1 _ d.legs [] rfl fun x hx => ⟨h.2.1 x ?_, ?_⟩
      · rw [hg, legsOf_mid]; simp [hx]
      · rw [h3 x hx]
        refine (h3 _ ?_).symm
        cases hl : d.legs with
        | nil => rw [hl] at hx; cases hx
        | cons a t => simp
    simp only [cgDebts, hz, ne_eq, not_true_eq_false, if_false]
    have := cgDebts_zero g h l (pre ++ [d]) (by simpa using hg)
    rwa [List.length_append, List.length_singleton] at this
theorem cg_valid (g : GGrp) (size : Nat) (hs : size ≤ 8) (hl : g.ests.length = size) (hE : allI (vE size) g.ests) (hB : ∀ e ∈ g.ests, e.claims.length ≤ 24 ∧ e.agrs.length ≤ 12) (hd : dOK g.ests g.debts) (hn : g.debts.length ≤ 16) : cgSpec g = 0 := by
  unfold cgSpec
  rw [if_neg (by omega), cgEsts_zero]
  · simp only [ne_eq, not_true_eq_false, if_false]
    rw [if_neg]
    · exact cgDebts_zero g hd g.debts [] rfl
    · have := gcHolds_zero (n := (g.ests.length : Int)) (l := g.ests) (i := 0) fun k hk c hc => by
        obtain ⟨a1, a2, a3, _⟩ := (hE k hk).2.1 c hc
        rw [Nat.zero_add, hl]
        exact ⟨a1, a3⟩
      have h0 : ((0 : Nat) : Int) = 0 := rfl
      rw [h0] at this
      rw [this]; simp
  · intro e he
    obtain ⟨i, hi, rfl⟩ := List.getElem_of_mem he
    exact ceSpec_zero hs (hE i hi) (hB _ he).1 (hB _ he).2
end Go.Proofs.YtogeijhepjcbgaaGreatDoor
end
