/- The arithmetic of both sides as contracts on plain data. -/
import Derived.Test.YtinaeglgfomlaaaGreatDoorFewM
import Derived.Test.YtinaeglgfomlaaaGreatDoorSm3M
import Derived.Test.YtinaeglgfomlaaaGreatDoorQ3M
import Derived.Test.YtinaeglgfomlaaaGreatDoorAbGM
import Derived.Test.YtinaeglgfomlaaaGreatDoorBl6M
import Derived.Test.YtinaeglgfomlaaaGreatDoorRw6M
set_option linter.unusedVariables false
set_option linter.unusedSimpArgs false
set_option linter.defProp false
set_option linter.unnecessarySimpa false
section
/- The arithmetic of both sides as contracts on plain data. -/
namespace Go.Proofs.YtinaeglgfomlaaaGreatDoor
open Go Go.RowKit
theorem aAdd (r1 r2 : GRat) (m n : Nat) (h1 : sB m r1) (h2 : sB n r2) (hm : m ≤ 100000000000) (hn : n ≤ 100000000000) (hm0 : 0 < m) (hn0 : 0 < n) : ACall Tryz.prog 38 [.agg (cRat r1), .agg (cRat r2)] (.val (.agg (cRat (enc (qOf r1 + qOf r2))))) :=
  acall_flat (fnOK_of Tryz.func38 (by decide) (by kernel_rfl)) [vRat r1, vRat r2] (vRat (enc (qOf r1 + qOf r2))) fun w => qAdd_any r1 r2 m n w h1 h2 hm hn hm0 hn0
end Go.Proofs.YtinaeglgfomlaaaGreatDoor
end
section
/- Classes: eligible, form, on both sides; walked by the abstract machine. -/
namespace Go.Proofs.YtinaeglgfomlaaaGreatDoor
open Go Go.RowKit
structure GCls where
  est : Int
  rank : Int
  small : Bool
  claims : List Int
end Go.Proofs.YtinaeglgfomlaaaGreatDoor
end
section
/- Classes in plain terms: what Form, Check and Sum answer; both checks agree. No walk. -/
namespace Go.Proofs.YtinaeglgfomlaaaGreatDoor
open Go Go.RowKit
end Go.Proofs.YtinaeglgfomlaaaGreatDoor
end
section
/- Classes: Form on both sides; lists that are equal compared; walked by the abstract machine. -/
namespace Go.Proofs.YtinaeglgfomlaaaGreatDoor
open Go Go.RowKit
end Go.Proofs.YtinaeglgfomlaaaGreatDoor
end
section
/- Plain law: a group that is built is valid; its legs are found where they stand, and there only. No walk. -/
namespace Go.Proofs.YtinaeglgfomlaaaGreatDoor
open Go Go.RowKit
theorem sgnN {q : Rat} (h : 0 ≤ q) : 0 ≤ qSgn q := by unfold qSgn qCmp; grind
def prP (n : Int) (E : Int → Bool) (p : GPart) : Prop := (p.claim = -1 ∧ p.capped = true ∨ 0 ≤ p.claim ∧ p.claim < n ∧ E p.claim = false) ∧ 0 ≤ qSgn (qOf p.cap)
theorem agT_zero {n : Int} {E : Int → Bool} (hn : 0 ≤ n) : ∀ {l : List GPart}, (∀ p ∈ l, prP n E p) → agT n E l = 0
  | [], _ => rfl
  | p :: l, h => by
    have h2 := agT_zero hn (fun q hq => h q (List.mem_cons_of_mem _ hq))
    obtain ⟨h3, h4⟩ := h p (by simp)
    simp only [agT, h2]
    rw [if_neg (by omega), if_neg (by rintro ⟨a, b⟩; rcases h3 with h3 | h3
                                      · rw [b] at h3; cases h3.2
                                      omega), if_neg (by omega), if_neg (by rintro ⟨a, b⟩; rcases h3 with h3 | h3
                                                                            · exact a h3.1
                                                                            rw [h3.2.2] at b; cases b)]
def agOK (n : Int) (pre : List GAgr) (a : GAgr) : Prop := a.length ≤ 24 ∧ (∀ t ∈ a, t.length ≤ 24) ∧ ∀ p ∈ a.flatten, prP n (fun c => mbE c pre) p
theorem agS_zero {n : Int} {pre : List GAgr} {a : GAgr} (hn : 0 ≤ n) (h : agOK n pre a) : agS n (fun c => mbE c pre) a = 0 := by
  unfold agS
  rw [if_neg (by have := h.1; omega), if_neg, agA_flat, agT_zero hn h.2.2]
  intro h1
  obtain ⟨t, ht, h2⟩ := List.any_eq_true.1 h1
  have := h.2.1 t ht
  simp only [longT, decide_eq_true_eq] at h2
  omega
def agsOK (e : GEst) : Prop := ∀ i (h : i < e.agrs.length), agOK e.claims.length (e.agrs.take i) e.agrs[i]
theorem ceAgrs_zero (e : GEst) (h : agsOK e) : ∀ (l : List GAgr) (i : Nat), l = e.agrs.drop i → ceAgrs e i l = 0
  | [], _, _ => rfl
  | a :: l, i, hl => by
    have hi : i < e.agrs.length := by
      rcases Nat.lt_or_ge i e.agrs.length with h | h
      · exact h
      rw [List.drop_eq_nil_of_le h] at hl; cases hl
    rw [List.drop_eq_getElem_cons hi] at hl
    obtain ⟨rfl, hl'⟩ := List.cons.inj hl
    have h0 := agS_zero (by omega) (h i hi)
    simp only [ceAgrs, h0, ne_eq, not_true_eq_false, if_false]
    exact ceAgrs_zero e h l (i + 1) hl'
theorem frP_mb (c : Int) : ∀ l, frP c l = !mbT c l
  | [] => rfl
  | p :: l => by
    simp only [frP, mbT, frP_mb c l]
    by_cases h : p.claim = c <;> simp [h]
theorem frT_mb (c : Int) : ∀ a, frT c a = !mbA c a
  | [] => rfl
  | t :: a => by
    simp only [frT, mbA, frT_mb c a, frP_mb c t]
    cases mbT c t <;> simp
theorem frA_mb (c : Int) : ∀ l, frA c l = !mbE c l
  | [] => rfl
  | a :: l => by
    simp only [frA, mbE, frA_mb c l, frT_mb c a]
    cases mbA c a <;> simp
def tOK (Q : GPart → Prop) (T : T3) : Prop := (∀ p ∈ T.a, Q p) ∧ (∀ p ∈ T.b, Q p) ∧ ∀ p ∈ T.c, Q p
theorem put_tOK {Q : GPart → Prop} (T : T3) (x : Nat) (p : GPart) (h : tOK Q T) (hp : Q p) : tOK Q (T.put x p) := by
  unfold T3.put
  have key : ∀ l : List GPart, (∀ q ∈ l, Q q) → ∀ q ∈ l ++ [p], Q q := fun l hl q hq => by
    rcases List.mem_append.1 hq with h1 | h1
    · exact hl q h1
    obtain rfl : q = p := by simpa using h1
    exact hp
  split
  · exact ⟨key _ h.1, h.2.1, h.2.2⟩
  split
  · exact ⟨h.1, key _ h.2.1, h.2.2⟩
  exact ⟨h.1, h.2.1, key _ h.2.2⟩
theorem bgL_tOK {Q : GPart → Prop} (agrs : List GAgr) (p : N3) (n : Nat) (hQ : ∀ i, i < n → frA i agrs = true → Q (bgP p i)) : ∀ (l : List GClaim) (i : Nat) (T : T3), i + l.length ≤ n → tOK Q T → tOK Q (bgL agrs p l i T)
  | [], _, _, _, h => h
  | _ :: l, i, T, hl, h => by
    rw [List.length_cons] at hl
    refine bgL_tOK agrs p n hQ l (i + 1) _ (by omega) ?_
    unfold bgS
    split
    · exact h
    split
    · exact put_tOK _ _ _ h (hQ i (by omega) ‹_›)
    exact h
theorem sgn_nat (n : Nat) : 0 ≤ qSgn (qOf (enc (((n : Nat) : Int) : Rat))) := by
  rw [qOf_enc]
  exact sgnN (by exact_mod_cast Nat.zero_le n)
theorem sgn_gZ : 0 ≤ qSgn (qOf gZ) := by rw [qOf_gZ]; exact sgnN (by grind)
theorem sgn_amt (x : Nat) : 0 ≤ qSgn (qOf (enc (qAmt x))) := by rw [qOf_enc]; exact sgnN (amt_nonneg x)
theorem bgP_prP (agrs : List GAgr) (p : N3) (n i : Nat) (hi : i < n) (hf : frA i agrs = true) : prP n (fun c => mbE c agrs) (bgP p i) := by
  rw [frA_mb] at hf
  have hb : mbE (i : Int) agrs = false := by simpa using hf
  unfold bgP
  split
  · exact ⟨.inr ⟨by simp, by simp; omega, hb⟩, sgn_nat _⟩
  exact ⟨.inr ⟨by simp, by simp; omega, hb⟩, sgn_gZ⟩
theorem bgN_agOK (e : GEst) (p : N3) (h : e.claims.length ≤ 6) : agOK e.claims.length e.agrs (bgN e p) := by
  have h0 := bgN_ok e p h
  refine ⟨by omega, fun t ht => by have := h0.2 t ht; omega, fun q hq => ?_⟩
  have h1 : tOK (prP e.claims.length (fun c => mbE c e.agrs)) (bgT p (bgL e.agrs p e.claims 0 ⟨[], [], []⟩)) := by
    have h2 := bgL_tOK (Q := prP e.claims.length (fun c => mbE c e.agrs)) e.agrs p e.claims.length (fun i hi hf => bgP_prP e.agrs p _ i hi hf) e.claims 0 ⟨[], [], []⟩ (by omega) ⟨by simp, by simp, by simp⟩
    unfold bgT
    split
    · exact put_tOK _ _ _ h2 ⟨.inl ⟨rfl, rfl⟩, sgn_nat _⟩
    exact h2
  obtain ⟨t, ht, hq⟩ := List.mem_flatten.1 hq
  simp only [bgN, List.mem_cons, List.not_mem_nil, or_false] at ht
  rcases ht with rfl | rfl | rfl
  · exact h1.1 q hq
  · exact h1.2.1 q hq
  exact h1.2.2 q hq
def vC (size i : Nat) (c : GClaim) : Prop := c.holder ≠ (i : Int) ∧ -1 ≤ c.holder ∧ c.holder < (size : Int) ∧ 0 ≤ c.rank ∧ c.rank ≤ 7 ∧ 0 ≤ qSgn (qOf c.amount)
def vE (size i : Nat) (e : GEst) : Prop := 0 ≤ qSgn (qOf e.cash) ∧ (∀ c ∈ e.claims, vC size i c) ∧ agsOK e
def allI (Pr : Nat → GEst → Prop) (es : List GEst) : Prop := ∀ i (h : i < es.length), Pr i es[i]
theorem allI_set {Pr : Nat → GEst → Prop} {es : List GEst} (h : allI Pr es) (j : Nat) (x : GEst) (hx : j < es.length → Pr j x) : allI Pr (es.set j x) := fun i hi => by
  rw [List.getElem_set]
  split
  · rename_i hji; subst hji; exact hx (by simpa using hi)
  exact h i (by simpa using hi)
theorem getD_at (es : List GEst) (j : Nat) (h : j < es.length) : es.getD j ztEst = es[j] := by
  rw [List.getD_eq_getElem?_getD, List.getElem?_eq_getElem h]; rfl
theorem foldl_inv {α β : Type} {Pr : β → Prop} (f : β → α → β) (hf : ∀ b x, Pr b → Pr (f b x)) : ∀ (l : List α) (b : β), Pr b → Pr (l.foldl f b)
  | [], _, h => h
  | x :: l, b, h => foldl_inv f hf l (f b x) (hf b x h)
def vE0 (size i : Nat) (e : GEst) : Prop := 0 ≤ qSgn (qOf e.cash) ∧ (∀ c ∈ e.claims, vC size i c) ∧ e.agrs = []
theorem mkClaim_v (size : Nat) (x : N4) : vC size (x.a % size) (mkClaim size x) := by
  unfold mkClaim vC
  refine ⟨?_, ?_, ?_, ?_, ?_, sgn_amt _⟩
  all_goals dsimp only
  · unfold mkHolder; split <;> omega
  · unfold mkHolder; split <;> omega
  · unfold mkHolder; split <;> omega
  · omega
  omega
theorem addClaim_v (size : Nat) (es : List GEst) (x : N4) (h : allI (vE0 size) es) : allI (vE0 size) (addClaim size es x) := by
  unfold addClaim
  split
  · exact h
  refine allI_set h _ _ fun hj => ?_
  rw [getD_at _ _ hj]
  obtain ⟨h1, h2, h3⟩ := h _ hj
  refine ⟨h1, fun c hc => ?_, h3⟩
  rcases List.mem_append.1 hc with hc | hc
  · exact h2 c hc
  obtain rfl : c = mkClaim size x := by simpa using hc
  exact mkClaim_v size x
theorem mkEst_v (size i : Nat) (cash : List Nat) : vE0 size i (mkEst cash i) := by
  refine ⟨?_, by simp [mkEst], rfl⟩
  unfold mkEst
  dsimp only
  split
  · exact sgn_amt _
  exact sgn_gZ
theorem snoc_agsOK (e : GEst) (a : GAgr) (h : agsOK e) (ha : agOK e.claims.length e.agrs a) : agsOK ⟨e.cash, e.claims, e.agrs ++ [a]⟩ := fun i hi => by
  have hi' : i < e.agrs.length + 1 := by simpa using hi
  by_cases hlt : i < e.agrs.length
  · have h1 := h i hlt
    simp only [List.getElem_append_left hlt, List.take_append_of_le_length (Nat.le_of_lt hlt)]
    exact h1
  obtain rfl : i = e.agrs.length := by omega
  simp only [List.take_left, List.getElem_concat_length]
  exact ha
theorem addAg_v (size : Nat) (es : List GEst) (p : N3) (h : (∀ e ∈ es, okB e) ∧ allI (vE size) es) : (∀ e ∈ addAg size es p, okB e) ∧ allI (vE size) (addAg size es p) := by
  refine ⟨addAg_ok size es p h.1, ?_⟩
  unfold addAg
  split
  · refine allI_set h.2 _ _ fun hj => ?_
    rw [getD_at _ _ hj]
    obtain ⟨h1, h2, h3⟩ := h.2 _ hj
    exact ⟨h1, h2, snoc_agsOK _ _ h3 (bgN_agOK _ p (h.1 _ (List.getElem_mem hj)).1)⟩
  exact h.2
theorem grpE_v (n : Nat) (cash : List Nat) (list : List N4) (pools : List N3) : allI (vE (1 + n % 4)) (grpE n cash list pools) := by
  unfold grpE
  refine (foldl_inv (Pr := fun es => (∀ e ∈ es, okB e) ∧ allI (vE (1 + n % 4)) es) _ (addAg_v _) _ _ ⟨fun e he => ?_, ?_⟩).2
  · have h := foldl_ok (Pr := okC) (addClaim (1 + n % 4)) (addClaim_ok _) list _ (fun e he => by
      obtain ⟨i, _, rfl⟩ := List.mem_map.1 he
      exact ⟨by simp [mkEst], rfl⟩) e he
    exact ⟨h.1, by rw [h.2]; simp, by rw [h.2]; simp⟩
  have h := foldl_inv (Pr := allI (vE0 (1 + n % 4))) (addClaim (1 + n % 4)) (addClaim_v _) list ((List.range (1 + n % 4)).map (mkEst cash)) (fun i hi => by
    have h1 := mkEst_v (1 + n % 4) i cash
    simpa using h1)
  intro i hi
  obtain ⟨h1, h2, h3⟩ := h i hi
  exact ⟨h1, h2, fun k hk => by rw [h3] at hk; simp at hk⟩
theorem wcClaims_zero {size i : Nat} (hs : size ≤ 8) : ∀ {l : List GClaim}, (∀ c ∈ l, vC size i c) → wcClaims l = 0
  | [], _ => rfl
  | c :: l, h => by
    have h2 := wcClaims_zero hs (fun d hd => h d (List.mem_cons_of_mem _ hd))
    obtain ⟨a1, a2, a3, a4, a5, a6⟩ := h c (by simp)
    simp only [wcClaims, h2]
    rw [if_neg (by omega), if_neg (by omega), if_neg (by omega)]
theorem ceSpec_zero {size i : Nat} {e : GEst} (hs : size ≤ 8) (h : vE size i e) (hc : e.claims.length ≤ 24) (ha : e.agrs.length ≤ 12) : ceSpec e = 0 := by
  unfold ceSpec
  rw [if_neg (by omega), if_neg (by have := h.1; omega), wcClaims_zero hs h.2.1]
  simp only [ne_eq, not_true_eq_false, if_false]
  exact ceAgrs_zero e h.2.2 _ 0 (by simp)
theorem cgEsts_zero : ∀ {l : List GEst}, (∀ e ∈ l, ceSpec e = 0) → cgEsts l = 0
  | [], _ => rfl
  | e :: l, h => by
    simp only [cgEsts, h e (by simp), ne_eq, not_true_eq_false, if_false]
    exact cgEsts_zero fun x hx => h x (List.mem_cons_of_mem _ hx)
theorem gcHold_zero {n i : Int} : ∀ {l : List GClaim}, (∀ c ∈ l, c.holder ≠ i ∧ c.holder < n) → gcHold n i l = false
  | [], _ => rfl
  | c :: l, h => by
    have h1 := h c (by simp)
    simp only [gcHold, gcHold_zero fun d hd => h d (List.mem_cons_of_mem _ hd), Bool.or_false, Bool.or_eq_false_iff, decide_eq_false_iff_not]
    exact ⟨h1.1, by omega⟩
theorem gcHolds_zero {n : Int} : ∀ {l : List GEst} {i : Nat}, (∀ k (h : k < l.length), ∀ c ∈ l[k].claims, c.holder ≠ ((i + k : Nat) : Int) ∧ c.holder < n) → gcHolds n i l = false
  | [], _, _ => rfl
  | e :: l, i, h => by
    have h1 := gcHolds_zero (l := l) (i := i + 1) (n := n) fun k hk c hc => by
      have := h (k + 1) (by simpa using hk) c (by simpa using hc)
      rwa [Nat.add_assoc, Nat.add_comm 1]
    have e1 : ((i : Nat) : Int) + 1 = ((i + 1 : Nat) : Int) := by omega
    simp only [gcHolds, e1, h1, Bool.or_false]
    exact gcHold_zero (h 0 (by simp))
def legsOf (ds : List GDebt) : List Leg := (ds.map GDebt.legs).flatten
theorem legsOf_snoc (ds : List GDebt) (x : GDebt) : legsOf (ds ++ [x]) = legsOf ds ++ x.legs := by simp [legsOf]
theorem legsOf_mid (pre post : List GDebt) (d : GDebt) : legsOf (pre ++ d :: post) = legsOf pre ++ (d.legs ++ legsOf post) := by simp [legsOf]
theorem tkL_iff (i c : Int) : ∀ l : List Leg, tkL i c l = true ↔ (i, c) ∈ l
  | [] => by simp [tkL]
  | x :: l => by
    obtain ⟨a, b⟩ := x
    simp only [tkL, List.mem_cons, Prod.mk.injEq]
    by_cases h1 : a = i
    · by_cases h2 : b = c
      · simp [h1, h2]
      simp [h1, h2, Ne.symm h2, tkL_iff i c l]
    simp [h1, Ne.symm h1, tkL_iff i c l]
theorem tkD_iff (i c : Int) : ∀ ds : List GDebt, tkD i c ds = true ↔ (i, c) ∈ legsOf ds
  | [] => by simp [tkD, legsOf]
  | d :: l => by
    have h := tkD_iff i c l
    simp only [legsOf, List.map_cons, List.flatten_cons, List.mem_append] at h ⊢
    simp only [tkD, ← h, ← tkL_iff]
    cases tkL i c d.legs <;> simp
theorem lgD_none (l0 : Leg) : ∀ (ds : List GDebt) (i : Nat), lgD l0 ds i = none ↔ l0 ∉ legsOf ds
  | [], i => by simp [lgD, legsOf]
  | d :: l, i => by
    have h := lgD_none l0 l (i + 1)
    have h2 := lgT_none l0 d.legs 0
    simp only [legsOf, List.map_cons, List.flatten_cons, List.mem_append, not_or] at h ⊢
    simp only [lgD]
    cases hx : lgT l0 d.legs 0 with
    | some j =>
      rw [hx] at h2
      simp only [reduceCtorEq, false_iff, Classical.not_not] at h2
      simp [h2]
    | none =>
      rw [hx] at h2
      simp only [true_iff] at h2
      simp only [h, h2, not_false_eq_true, true_and]
def dOK (es : List GEst) (ds : List GDebt) : Prop := (legsOf ds).Nodup ∧ (∀ l ∈ legsOf ds, inEsts es l = true) ∧ ∀ d ∈ ds, 0 ≤ qSgn (qOf d.whole) ∧ d.legs.length ≤ 4 ∧ ∃ h, ∀ l ∈ d.legs, (claimAt es l).holder = h
def oI (es : List GEst) (debts : List GDebt) (i c : Nat) (s : OS) : Prop :=
  s.l.Nodup ∧ ∀ l ∈ s.l, (l.1 < (i : Int) ∨ l.1 = (i : Int) ∧ l.2 < (c : Int)) ∧ inEsts es l = true ∧ l ∉ legsOf debts ∧ (claimAt es l).holder = s.h
theorem oI_mono {es : List GEst} {debts : List GDebt} {i c : Nat} {s : OS} (h : oI es debts i c s) (k : Nat) : oI es debts i (c + 1) ⟨k, s.h, s.l⟩ :=
  ⟨h.1, fun l hl => ⟨by have := (h.2 l hl).1; omega, (h.2 l hl).2⟩⟩
theorem oI_add {es : List GEst} {debts : List GDebt} {i c : Nat} {s : OS} {y : GClaim} (h : oI es debts i c s) (k : Nat) (hin : inEsts es ((i : Int), (c : Int)) = true) (hy : (claimAt es ((i : Int), (c : Int))).holder = y.holder)
    (ht : ¬ tkD i c debts = true) (hs : s.l = [] ∨ y.holder = s.h) : oI es debts i (c + 1) ⟨k, y.holder, s.l ++ [((i : Int), (c : Int))]⟩ := by
  rw [tkD_iff] at ht
  refine ⟨List.nodup_append.2 ⟨h.1, by simp, fun a ha b hb => ?_⟩, fun l hl => ?_⟩
  · obtain rfl : b = ((i : Int), (c : Int)) := by simpa using hb
    rintro rfl
    have := (h.2 _ ha).1
    simp at this
  rcases List.mem_append.1 hl with hl | hl
  · obtain ⟨h1, h2, h3, h4⟩ := h.2 l hl
    refine ⟨by omega, h2, h3, ?_⟩
    rcases hs with hs | hs
    · rw [hs] at hl; cases hl
    show _ = y.holder
    rw [h4, hs]
  obtain rfl : l = ((i : Int), (c : Int)) := by simpa using hl
  exact ⟨.inr ⟨rfl, by simp; omega⟩, hin, ht, hy⟩
theorem owS_I {es : List GEst} {debts : List GDebt} {i c : Nat} {s : OS} {y : GClaim} (p : N3) (h : oI es debts i c s) (hin : inEsts es ((i : Int), (c : Int)) = true) (hy : (claimAt es ((i : Int), (c : Int))).holder = y.holder) : oI es debts i (c + 1) (owS debts p i c y s) := by
  unfold owS
  split
  · exact oI_mono h s.k
  rename_i ht
  split
  · exact oI_mono h s.k
  split
  · split
    · rename_i hz
      exact oI_add h _ hin hy ht (.inl (List.eq_nil_of_length_eq_zero (by omega)))
    split
    · rename_i hz; exact oI_add h _ hin hy ht (.inr hz)
    exact oI_mono h _
  exact oI_mono h _
theorem owC_I {es : List GEst} {debts : List GDebt} {i : Nat} {e : GEst} (p : N3) (he : es[i]? = some e) : ∀ (l : List GClaim) (c : Nat) (s : OS), l = e.claims.drop c → oI es debts i c s → ∃ c', oI es debts i c' (owC debts p i l c s)
  | [], c, s, _, h => ⟨c, h⟩
  | y :: l, c, s, hl, h => by
    have hi : c < e.claims.length := by
      rcases Nat.lt_or_ge c e.claims.length with h | h
      · exact h
      rw [List.drop_eq_nil_of_le h] at hl; cases hl
    rw [List.drop_eq_getElem_cons hi] at hl
    obtain ⟨rfl, hl'⟩ := List.cons.inj hl
    have hg : es.getD i ztEst = e := by rw [List.getD_eq_getElem?_getD, he]; rfl
    have hil : i < es.length := (List.getElem?_eq_some_iff.1 he).1
    refine owC_I p he l (c + 1) _ hl' (owS_I p h ?_ ?_)
    · simp only [inEsts, Int.toNat_natCast, hg, Bool.and_eq_true, decide_eq_true_eq]
      omega
    simp only [claimAt, Int.toNat_natCast, hg]
    rw [List.getD_eq_getElem?_getD, List.getElem?_eq_getElem hi]; rfl
theorem owE_I {es : List GEst} {debts : List GDebt} (p : N3) : ∀ (l : List GEst) (i : Nat) (s : OS), l = es.drop i → oI es debts i 0 s → ∃ i', oI es debts i' 0 (owE debts p l i s)
  | [], i, s, _, h => ⟨i, h⟩
  | e :: l, i, s, hl, h => by
    have hi : i < es.length := by
      rcases Nat.lt_or_ge i es.length with h | h
      · exact h
      rw [List.drop_eq_nil_of_le h] at hl; cases hl
    rw [List.drop_eq_getElem_cons hi] at hl
    obtain ⟨rfl, hl'⟩ := List.cons.inj hl
    obtain ⟨c, h1⟩ := owC_I p (List.getElem?_eq_getElem hi) es[i].claims 0 s (by simp) h
    exact owE_I p l (i + 1) _ hl' ⟨h1.1, fun x hx => ⟨by have := (h1.2 x hx).1; omega, (h1.2 x hx).2⟩⟩
theorem rvL_perm (l : List Leg) : ∀ m, m ≤ l.length → (rvL l m).Perm l
  | 0, _ => .refl _
  | m + 1, h => by
    have ih := rvL_perm l m (by omega)
    have hl := rvL_len l m
    refine List.Perm.trans ?_ ih
    show (swp (rvL l m) m (l.length - 1 - m)).Perm (rvL l m)
    unfold swp
    have h1 : m < (rvL l m).length := by omega
    have h2 : l.length - 1 - m < (rvL l m).length := by omega
    rw [List.getD_eq_getElem?_getD, List.getD_eq_getElem?_getD, List.getElem?_eq_getElem h1, List.getElem?_eq_getElem h2]
    exact List.set_set_perm h1 h2
theorem owN_I (es : List GEst) (ds : List GDebt) (p : N3) : (owN ⟨es, ds⟩ p).legs.Nodup ∧ (∀ l ∈ (owN ⟨es, ds⟩ p).legs, inEsts es l = true ∧ l ∉ legsOf ds) ∧ ∃ h, ∀ l ∈ (owN ⟨es, ds⟩ p).legs, (claimAt es l).holder = h := by
  obtain ⟨i, h⟩ := owE_I (es := es) (debts := ds) p es 0 ⟨0, 0, []⟩ (by simp) ⟨by simp, by simp⟩
  have key : ∀ L : List Leg, L.Perm (owE ds p es 0 ⟨0, 0, []⟩).l → L.Nodup ∧ (∀ l ∈ L, inEsts es l = true ∧ l ∉ legsOf ds) ∧ ∃ h, ∀ l ∈ L, (claimAt es l).holder = h := fun L hL =>
    ⟨hL.symm.nodup h.1, fun l hl => ⟨(h.2 l (hL.mem_iff.1 hl)).2.1, (h.2 l (hL.mem_iff.1 hl)).2.2.1⟩, _, fun l hl => (h.2 l (hL.mem_iff.1 hl)).2.2.2⟩
  unfold owN
  dsimp only
  split
  · exact key _ (rvL_perm _ _ (by omega))
  exact key _ (.refl _)
theorem addDb_v (es : List GEst) (ds : List GDebt) (p : N3) (h : dOK es ds) : dOK es (addDb es ds p) := by
  unfold addDb
  split
  · obtain ⟨a1, a2, a3⟩ := h
    obtain ⟨b1, b2, b3⟩ := owN_I es ds p
    refine ⟨?_, ?_, ?_⟩
    · rw [legsOf_snoc, List.nodup_append]
      exact ⟨a1, b1, fun x hx y hy e => (b2 y hy).2 (e ▸ hx)⟩
    · rw [legsOf_snoc]
      intro l hl
      rcases List.mem_append.1 hl with hl | hl
      · exact a2 l hl
      exact (b2 l hl).1
    intro d hd
    rcases List.mem_append.1 hd with hd | hd
    · exact a3 d hd
    obtain rfl : d = owN ⟨es, ds⟩ p := by simpa using hd
    exact ⟨sgn_amt _, owN_len _ _, b3⟩
  exact h
theorem grpN_d (n : Nat) (cash : List Nat) (list : List N4) (pools debts : List N3) : dOK (grpN n cash list pools debts).ests (grpN n cash list pools debts).debts :=
  foldl_inv (Pr := dOK (grpE n cash list pools)) _ (addDb_v _) debts [] ⟨by simp [legsOf], by simp [legsOf], by simp⟩
theorem dbL_zero (g : GGrp) (pre post : List GDebt) (d : GDebt) (hg : g.debts = pre ++ d :: post) (hn : (legsOf g.debts).Nodup) (h0 : Int) : ∀ (ls dn : List Leg), d.legs = dn ++ ls → (∀ l ∈ ls, inEsts g.ests l = true ∧ (claimAt g.ests l).holder = h0) → dbL g pre.length h0 ls dn.length = 0
  | [], _, _, _ => rfl
  | l :: ls, dn, hd, h => by
    have hb := bad_iff g pre post d dn ls l hg hd
    rw [hg, legsOf_mid, hd, List.nodup_append, List.append_assoc, List.nodup_append] at hn
    have h1 : l ∉ legsOf pre := fun hm => hn.2.2 l hm l (by simp) rfl
    have h2 : l ∉ dn := fun hm => hn.2.1.2.2 l hm l (by simp) rfl
    rw [Ne, (lgD_none l pre 0).2 h1] at hb
    have hf : lgBad (lgD l g.debts 0) pre.length dn.length = false := by
      cases hx : lgBad (lgD l g.debts 0) pre.length dn.length with
      | false => rfl
      | true => rcases hb.1 hx with h3 | h3
                · exact absurd rfl h3
                exact absurd h3 h2
    obtain ⟨k1, k2⟩ := h l (by simp)
    have ih := dbL_zero g pre post d hg (by rw [hg, legsOf_mid, hd, List.nodup_append, List.append_assoc, List.nodup_append]; exact hn) h0 ls (dn ++ [l]) (by simpa using hd) (fun x hx => h x (List.mem_cons_of_mem _ hx))
    rw [List.length_append, List.length_singleton] at ih
    simp only [dbL, k1, k2, hf, ih]
    simp
theorem cgDebts_zero (g : GGrp) (h : dOK g.ests g.debts) : ∀ (l pre : List GDebt), g.debts = pre ++ l → cgDebts g l pre.length = 0
  | [], _, _ => rfl
  | d :: l, pre, hg => by
    have hd : d ∈ g.debts := by rw [hg]; simp
    obtain ⟨h1, h2, h0, h3⟩ := h.2.2 d hd
    have hz : dbS g pre.length d = 0 := by
      unfold dbS
      rw [if_neg (by omega), if_neg (by omega)]
      refine dbL_zero g pre l d hg h.1 _ d.legs [] rfl fun x hx => ⟨h.2.1 x ?_, ?_⟩
      · rw [hg, legsOf_mid]; simp [hx]
      rw [h3 x hx]
      refine (h3 _ ?_).symm
      cases hl : d.legs with
      | nil => rw [hl] at hx; cases hx
      | cons a t => simp
    simp only [cgDebts, hz, ne_eq, not_true_eq_false, if_false]
    have := cgDebts_zero g h l (pre ++ [d]) (by simpa using hg)
    rwa [List.length_append, List.length_singleton] at this
theorem cg_valid (g : GGrp) (size : Nat) (hs : size ≤ 8) (hl : g.ests.length = size) (hE : allI (vE size) g.ests) (hB : ∀ e ∈ g.ests, e.claims.length ≤ 24 ∧ e.agrs.length ≤ 12) (hd : dOK g.ests g.debts) (hn : g.debts.length ≤ 16) : cgSpec g = 0 := by
  unfold cgSpec
  rw [if_neg (by omega), cgEsts_zero]
  · simp only [ne_eq, not_true_eq_false, if_false]
    rw [if_neg]
    · exact cgDebts_zero g hd g.debts [] rfl
    have := gcHolds_zero (n := (g.ests.length : Int)) (l := g.ests) (i := 0) fun k hk c hc => by
      obtain ⟨a1, a2, a3, _⟩ := (hE k hk).2.1 c hc
      rw [Nat.zero_add, hl]
      exact ⟨a1, a3⟩
    have h0 : ((0 : Nat) : Int) = 0 := rfl
    rw [h0] at this
    rw [this]; simp
  intro e he
  obtain ⟨i, hi, rfl⟩ := List.getElem_of_mem he
  exact ceSpec_zero hs (hE i hi) (hB _ he).1 (hB _ he).2
theorem grpN_valid (n : Nat) (cash : List Nat) (list : List N4) (pools debts : List N3) : cgSpec (grpN n cash list pools debts) = 0 :=
  cg_valid _ (1 + n % 4) (by omega) (grpE_len n cash list pools) (grpE_v n cash list pools) (fun e he => by
    have := grpE_okB n cash list pools e he
    unfold okB at this
    omega) (grpN_d n cash list pools debts) (by have := (grpN_ok n cash list pools debts).2.1; omega)
end Go.Proofs.YtinaeglgfomlaaaGreatDoor
end
section
/- Classes: Sum on both sides; numbers compared; walked by the abstract machine. -/
namespace Go.Proofs.YtinaeglgfomlaaaGreatDoor
open Go Go.RowKit
end Go.Proofs.YtinaeglgfomlaaaGreatDoor
end
