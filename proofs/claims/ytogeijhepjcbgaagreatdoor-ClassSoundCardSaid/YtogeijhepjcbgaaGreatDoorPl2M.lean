/- Plain law: the program's check of a group is the reference's. No walk. -/
import Derived.Test.YtogeijhepjcbgaaGreatDoorRw6M
set_option linter.unusedVariables false
set_option linter.unusedSimpArgs false
set_option linter.defProp false
set_option linter.unnecessarySimpa false
/- Plain law: the program's check of a group is the reference's. No walk. -/
namespace Go.Proofs.YtogeijhepjcbgaaGreatDoor
open Go Go.RowKit
theorem gcEsts_cg : ∀ l : List GEst, gcEsts l = cgEsts l
  | [] => rfl
  | e :: l => by simp only [gcEsts, cgEsts, wc_ce e, gcEsts_cg l]
theorem lgT_append (l0 : Leg) : ∀ (t u : List Leg) (j : Nat), lgT l0 (t ++ u) j = match lgT l0 t j with
    | some x => some x
    | none => lgT l0 u (j + t.length)
  | [], u, j => by simp [lgT]
  | x :: t, u, j => by
    simp only [List.cons_append, lgT]
    by_cases h : x.1 = l0.1 ∧ x.2 = l0.2
    · simp [h]
    rw [if_neg h, if_neg h, lgT_append l0 t u (j + 1)]
    simp [Nat.add_assoc, Nat.add_comm 1]
theorem lgT_none (l0 : Leg) : ∀ (t : List Leg) (j : Nat), lgT l0 t j = none ↔ l0 ∉ t
  | [], j => by simp [lgT]
  | x :: t, j => by
    simp only [lgT]
    by_cases h : x.1 = l0.1 ∧ x.2 = l0.2
    · have : x = l0 := Prod.ext h.1 h.2
      simp [h, this]
    have hx : l0 ≠ x := fun e => h (by rw [e]; exact ⟨rfl, rfl⟩)
    rw [if_neg h, lgT_none l0 t (j + 1)]
    simp [hx]
theorem lgD_append (l0 : Leg) : ∀ (ds es : List GDebt) (i : Nat), lgD l0 (ds ++ es) i = match lgD l0 ds i with
    | some x => some x
    | none => lgD l0 es (i + ds.length)
  | [], es, i => by simp [lgD]
  | d :: ds, es, i => by
    simp only [List.cons_append, lgD]
    cases lgT l0 d.legs 0 with
    | some j => rfl
    | none =>
      simp only
      rw [lgD_append l0 ds es (i + 1)]
      simp [Nat.add_assoc, Nat.add_comm 1]
theorem lgD_lt (l0 : Leg) : ∀ (ds : List GDebt) (i : Nat) (x : Nat × Nat), lgD l0 ds i = some x → x.1 < i + ds.length
  | d :: ds, i, x, h => by
    simp only [lgD] at h
    cases hh : lgT l0 d.legs 0 with
    | some j => rw [hh] at h; simp at h; subst h; simp
    | none => rw [hh] at h; have := lgD_lt l0 ds (i + 1) x h; simp only [List.length_cons]; omega
theorem lgT_lt (l0 : Leg) : ∀ (t : List Leg) (j x : Nat), lgT l0 t j = some x → x < j + t.length
  | y :: t, j, x, h => by
    simp only [lgT] at h
    split at h
    · simp at h; subst h; simp
    have := lgT_lt l0 t (j + 1) x h; simp only [List.length_cons]; omega
theorem bad_iff (g : GGrp) (pre post : List GDebt) (d : GDebt) (dn ls : List Leg) (l : Leg) (hg : g.debts = pre ++ d :: post) (hd : d.legs = dn ++ l :: ls) :
    lgBad (lgD l g.debts 0) pre.length dn.length = true ↔ (lgD l pre 0 ≠ none ∨ l ∈ dn) := by
  rw [hg, lgD_append]
  cases h1 : lgD l pre 0 with
  | some x =>
    have := lgD_lt l pre 0 x h1
    simp only [lgBad, decide_eq_true_eq, ne_eq, reduceCtorEq, not_false_eq_true, true_or, iff_true]
    left; omega
  | none =>
    simp only [lgD, hd, lgT_append, Nat.zero_add]
    cases h2 : lgT l dn 0 with
    | some x =>
      have := lgT_lt l dn 0 x h2
      have hm : l ∈ dn := Classical.byContradiction fun h => by rw [(lgT_none l dn 0).2 h] at h2; cases h2
      simp only [lgBad, decide_eq_true_eq, hm, or_true, iff_true]
      right; omega
    | none =>
      have hm := (lgT_none l dn 0).1 h2
      simp [lgT, lgBad, hm]
theorem cd_db (g : GGrp) (pre post : List GDebt) (d : GDebt) (hg : g.debts = pre ++ d :: post) (h0 : Int) : ∀ (ls dn : List Leg) (T : List Leg), d.legs = dn ++ ls → (∀ l, l ∈ T ↔ (lgD l pre 0 ≠ none ∨ l ∈ dn)) →
    (cdLoop g.ests h0 ls T).1 = dbL g pre.length h0 ls dn.length ∧ ((cdLoop g.ests h0 ls T).1 = 0 → ∀ l, l ∈ (cdLoop g.ests h0 ls T).2 ↔ (lgD l pre 0 ≠ none ∨ l ∈ d.legs))
  | [], dn, T, hd, hT => by
    simp only [cdLoop, dbL]
    refine ⟨trivial, fun _ l => ?_⟩
    rw [hT l, hd, List.append_nil]
  | l :: ls, dn, T, hd, hT => by
    have hb := bad_iff g pre post d dn ls l hg hd
    rw [← hT l] at hb
    simp only [cdLoop, dbL, hb]
    by_cases c1 : inEsts g.ests l = false
    · simp [c1]
    by_cases c2 : l ∈ T
    · simp [c1, c2]
    by_cases c3 : (claimAt g.ests l).holder ≠ h0
    · simp [c1, c2, c3]
    have ih := cd_db g pre post d hg h0 ls (dn ++ [l]) (T ++ [l]) (by simpa using hd) (fun x => by simp only [List.mem_append, List.mem_singleton]; rw [hT x]; exact or_assoc)
    rw [List.length_append, List.length_singleton] at ih
    simpa only [c1, c2, c3, if_false, reduceCtorEq, ite_false] using ih
theorem gcDebts_cg (g : GGrp) : ∀ (ds pre : List GDebt) (T : List Leg), g.debts = pre ++ ds → (∀ l, l ∈ T ↔ lgD l pre 0 ≠ none) → gcDebts g ds T = cgDebts g ds pre.length
  | [], _, _, _, _ => rfl
  | d :: ds, pre, T, hg, hT => by
    have h := cd_db g pre ds d hg (claimAt g.ests (d.legs.getD 0 (0, 0))).holder d.legs [] T rfl (fun l => by simpa using hT l)
    have h1 : (cdSpec g d T).1 = dbS g pre.length d := by
      unfold cdSpec dbS
      split
      · rfl
      split
      · rfl
      exact h.1
    simp only [gcDebts, cgDebts, ← h1]
    by_cases c : (cdSpec g d T).1 = 0
    · rw [if_neg (by simp [c]), if_neg (by simp [c])]
      have := gcDebts_cg g ds (pre ++ [d]) (cdSpec g d T).2 (by simpa using hg) (fun l => ?_)
      · simpa using this
      have h2 : (cdSpec g d T) = cdLoop g.ests (claimAt g.ests (d.legs.getD 0 (0, 0))).holder d.legs T := by
        unfold cdSpec at c ⊢
        split
        · rename_i hh; rw [if_pos hh] at c; cases c
        rename_i hh
        rw [if_neg hh] at c
        split
        · rename_i hh2; rw [if_pos hh2] at c; cases c
        rfl
      rw [h2] at c ⊢
      rw [h.2 c l, lgD_append]
      cases h3 : lgD l pre 0 with
      | some x => simp
      | none =>
        simp only [lgD]
        cases h4 : lgT l d.legs 0 with
        | some x =>
          have : l ∈ d.legs := Classical.byContradiction fun h => by rw [(lgT_none l _ 0).2 h] at h4; cases h4
          simp [this]
        | none => simp [(lgT_none l _ 0).1 h4]
    rw [if_pos c, if_pos c]
theorem gc_cg (g : GGrp) : gcSpec g = cgSpec g := by
  unfold gcSpec cgSpec
  rw [gcEsts_cg, gcDebts_cg g g.debts [] [] rfl (fun l => by simp [lgD])]
  rfl
end Go.Proofs.YtogeijhepjcbgaaGreatDoor
