/- The builder of groups: what its loops keep, in plain terms; cells that say less. No program in sight. -/
import Derived.Test.YtinaeglgfomlaaaGreatDoorBl3M
set_option linter.unusedVariables false
set_option linter.unusedSimpArgs false
set_option linter.defProp false
set_option linter.unnecessarySimpa false
set_option linter.unusedSectionVars false
/- The builder of groups: what its loops keep, in plain terms; cells that say less. No program in sight. -/
namespace Go.Proofs.YtinaeglgfomlaaaGreatDoor
open Go Go.RowKit
section
variable {P : Program} {e : En} {k0 : Kx} {N : Nat} {st : St} {a : Act} {w : World} {Q : Exit → St → Prop} {c : Code}
theorem wk_cells (nm : Nat) {B : Blk} (cs' : List C) (hB : st.H nm = some B) (hsz : B.sz ≠ 0) (hl : cs'.length = B.cs.length) (h : ∀ (κ : Kx) (vs : List Value), denVs κ vs B.cs → denVs κ vs cs') :
    Wk e k0 N st ⟨st.tm, up st.H nm (some { B with cs := cs' }), st.nx, st.nb⟩ := by
  intro a w hr
  obtain ⟨σ, h1, h2, h3⟩ := hr.ex
  obtain ⟨g1, g2, xs, g3, g4⟩ := h1.rowOf hB (.inl hsz)
  obtain ⟨m1, m2⟩ := h1.upd (w' := w) hB ⟨rfl, rfl, rfl, Nat.le_refl _, fun _ _ _ => rfl⟩ (cs := cs') hsz (by rw [hl]; exact g2) g3 (h _ _ g4)
  exact ⟨⟨_, m1, fun t' => denA_ext m2 (h2 t'), h3.trans m2⟩, hr.df, hr.sz⟩
end
theorem den_nilsh {κ : Kx} {v : Value} (sz : Nat) (h : den κ v (.lit (.slice none 0 0))) : den κ v (.sh sz 0 []) := by
  simp only [den] at h ⊢
  exact ⟨none, 0, h.1, Nat.le_refl _, by unfold maxLen; omega, fun _ => rfl, by simp, .inl trivial⟩
theorem denVs_cons {κ : Kx} {vs : List Value} {c : C} {cs : List C} (h : denVs κ vs (c :: cs)) : ∃ v vs', vs = v :: vs' ∧ den κ v c ∧ denVs κ vs' cs := by
  cases vs with
  | nil => exact h.elim
  | cons v vs => exact ⟨v, vs, rfl, h.1, h.2⟩
theorem eRow_est : ∀ (ps : List (GEst × Nat)) (i : Nat), (∀ p ∈ ps, p.1.agrs = []) → ∀ (κ : Kx) (vs : List Value), denVs κ vs (eRow fSh ps i) → denVs κ vs (flat cEst (ps.map (·.1)))
  | [], _, _, κ, vs, h => h
  | p :: ps, i, hp, κ, vs, h => by
    have ha := hp p (by simp)
    simp only [eRow, List.cons_append, List.nil_append] at h
    obtain ⟨v1, vs1, rfl, d1, h⟩ := denVs_cons h
    obtain ⟨v2, vs2, rfl, d2, h⟩ := denVs_cons h
    obtain ⟨v3, vs3, rfl, d3, h⟩ := denVs_cons h
    obtain ⟨v4, vs4, rfl, d4, h⟩ := denVs_cons h
    obtain ⟨v5, vs5, rfl, d5, h⟩ := denVs_cons h
    have ih := eRow_est ps (i + 1) (fun q hq => hp q (by simp [hq])) κ vs5 h
    rw [List.map_cons, flat_cons]
    simp only [cEst, ha]
    exact ⟨d1, d2, d3, d4, den_nilsh 1 d5, ih⟩
theorem eRow_fst {l m : List (GEst × Nat)} (i : Nat) (h : l.map (·.1) = m.map (·.1)) : eRow fNil l i = eRow fNil m i := by
  induction l generalizing m i with
  | nil =>
    cases m with
    | nil => rfl
    | cons q m => simp at h
  | cons p l ih =>
    cases m with
    | nil => simp at h
    | cons q m =>
      simp only [List.map_cons, List.cons.injEq] at h
      simp only [eRow, h.1, ih (i + 1) h.2, fNil]
theorem flat_setf {α : Type} {f : α → List C} {sz : Nat} (hf : ∀ a, (f a).length = sz) (l : List α) (k o : Nat) (ds : List C) (x : α) (h : k < l.length) (ho : o + ds.length ≤ sz) (hx : spl (f l[k]) o ds = f x) : spl (flat f l) (k * sz + o) ds = flat f (l.set k x) := by
  have h1 : flat f l = flat f (l.take k) ++ (f l[k] ++ flat f (l.drop (k + 1))) := by
    conv => lhs; rw [← List.take_append_drop k l, flat_append, List.drop_eq_getElem_cons h, flat_cons]
  have h2 : flat f (l.set k x) = flat f (l.take k) ++ (f x ++ flat f (l.drop (k + 1))) := by
    have hk : k < (l.set k x).length := by simpa using h
    conv => lhs; rw [← List.take_append_drop k (l.set k x), flat_append, List.drop_eq_getElem_cons hk, flat_cons]
    rw [List.getElem_set_self, List.drop_set]
    have : (l.set k x).take k = l.take k := by rw [List.take_set]; exact List.set_eq_of_length_le (by rw [List.length_take]; omega)
    rw [this]; simp
  have h3 : (flat f (l.take k)).length = k * sz := by rw [flat_length hf, List.length_take, Nat.min_eq_left (Nat.le_of_lt h)]
  have hlen := hf l[k]
  have e1 : f l[k] = (f l[k]).take o ++ (((f l[k]).drop o).take ds.length ++ (f l[k]).drop (o + ds.length)) := by
    rw [← List.drop_drop, List.take_append_drop, List.take_append_drop]
  have e2 : f x = (f l[k]).take o ++ (ds ++ (f l[k]).drop (o + ds.length)) := by
    rw [← hx]
    conv => lhs; rw [e1]
    have : o = ((f l[k]).take o).length := by rw [List.length_take, hlen]; omega
    conv => lhs; arg 2; rw [this]
    exact spl_mid _ _ _ _ (by rw [List.length_take, List.length_drop, hlen]; omega)
  have e4 : k * sz + o = (flat f (l.take k) ++ (f l[k]).take o).length := by
    rw [List.length_append, h3, List.length_take, hlen]; omega
  have e3 : flat f l = (flat f (l.take k) ++ (f l[k]).take o) ++ (((f l[k]).drop o).take ds.length ++ ((f l[k]).drop (o + ds.length) ++ flat f (l.drop (k + 1)))) := by
    conv => lhs; rw [h1, e1]
    simp only [List.append_assoc]
  rw [e3, e4, spl_mid _ _ _ _ (by rw [List.length_take, List.length_drop, hlen]; omega), h2, e2]
  simp only [List.append_assoc]
noncomputable def addAg (size : Nat) (es : List GEst) (p : N3) : List GEst :=
  if ((es.getD (p.a % size) ztEst).agrs.length : Int) < 2 then es.set (p.a % size) { es.getD (p.a % size) ztEst with agrs := (es.getD (p.a % size) ztEst).agrs ++ [bgN (es.getD (p.a % size) ztEst) p] } else es
noncomputable def addDb (es : List GEst) (ds : List GDebt) (d : N3) : List GDebt := if (ds.length : Int) < 3 then ds ++ [owN ⟨es, ds⟩ d] else ds
noncomputable def grpE (n : Nat) (cash : List Nat) (list : List N4) (pools : List N3) : List GEst := pools.foldl (addAg (1 + n % 4)) (list.foldl (addClaim (1 + n % 4)) ((List.range (1 + n % 4)).map (mkEst cash)))
noncomputable def grpN (n : Nat) (cash : List Nat) (list : List N4) (pools debts : List N3) : GGrp := ⟨grpE n cash list pools, debts.foldl (addDb (grpE n cash list pools)) []⟩
def okB (e : GEst) : Prop := e.claims.length ≤ 6 ∧ e.agrs.length ≤ 2 ∧ ∀ a ∈ e.agrs, a.length ≤ 3 ∧ ∀ t ∈ a, t.length ≤ 7
theorem T3put_len (T : T3) (x : Nat) (p : GPart) (n : Nat) (h : T.a.length ≤ n ∧ T.b.length ≤ n ∧ T.c.length ≤ n) : (T.put x p).a.length ≤ n + 1 ∧ (T.put x p).b.length ≤ n + 1 ∧ (T.put x p).c.length ≤ n + 1 := by
  unfold T3.put
  obtain ⟨h1, h2, h3⟩ := h
  repeat' split
  all_goals (simp only [List.length_append, List.length_cons, List.length_nil]; omega)
theorem bgL_len (agrs : List GAgr) (p : N3) : ∀ (l : List GClaim) (i : Nat) (T : T3) (n : Nat), (T.a.length ≤ n ∧ T.b.length ≤ n ∧ T.c.length ≤ n) → (bgL agrs p l i T).a.length ≤ n + l.length ∧ (bgL agrs p l i T).b.length ≤ n + l.length ∧ (bgL agrs p l i T).c.length ≤ n + l.length
  | [], _, _, _, h => h
  | _ :: l, i, T, n, h => by
    have h1 := bgS_len agrs p i T
    have := bgL_len agrs p l (i + 1) (bgS agrs p i T) (n + 1) (by omega)
    simp only [bgL, List.length_cons]
    omega
theorem bgN_ok (e : GEst) (p : N3) (h : e.claims.length ≤ 6) : (bgN e p).length ≤ 3 ∧ ∀ t ∈ bgN e p, t.length ≤ 7 := by
  refine ⟨by simp [bgN], fun t ht => ?_⟩
  have h1 := bgL_len e.agrs p e.claims 0 ⟨[], [], []⟩ 0 (by simp)
  have h2 : (bgT p (bgL e.agrs p e.claims 0 ⟨[], [], []⟩)).a.length ≤ 7 ∧ (bgT p (bgL e.agrs p e.claims 0 ⟨[], [], []⟩)).b.length ≤ 7 ∧ (bgT p (bgL e.agrs p e.claims 0 ⟨[], [], []⟩)).c.length ≤ 7 := by
    unfold bgT
    split
    · have := T3put_len (bgL e.agrs p e.claims 0 ⟨[], [], []⟩) (p.a / 32 % 3 + 1) ⟨-1, true, enc (((p.a / 96 % 7 : Nat) : Int) : Rat)⟩ 6 (by omega)
      exact this
    omega
  simp only [bgN, List.mem_cons, List.not_mem_nil, or_false] at ht
  rcases ht with rfl | rfl | rfl
  · exact h2.1
  · exact h2.2.1
  exact h2.2.2
theorem okB_zt : okB ztEst := ⟨by simp [ztEst], by simp [ztEst], by simp [ztEst]⟩
theorem getD_ok {Pr : GEst → Prop} {es : List GEst} (h : ∀ e ∈ es, Pr e) (h0 : Pr ztEst) (i : Nat) : Pr (es.getD i ztEst) := by
  rw [List.getD_eq_getElem?_getD]
  cases hx : es[i]? with
  | none => exact h0
  | some e => exact h e (List.mem_of_getElem? hx)
theorem set_ok {Pr : GEst → Prop} {es : List GEst} (h : ∀ e ∈ es, Pr e) (i : Nat) {x : GEst} (hx : Pr x) : ∀ e ∈ es.set i x, Pr e := fun e he => by
  rcases List.mem_or_eq_of_mem_set he with h1 | rfl
  · exact h e h1
  exact hx
theorem addAg_ok (size : Nat) (es : List GEst) (p : N3) (h : ∀ e ∈ es, okB e) : ∀ e ∈ addAg size es p, okB e := by
  unfold addAg
  split
  · rename_i hlt
    have h0 := getD_ok h okB_zt (p.a % size)
    generalize es.getD (p.a % size) ztEst = e at *
    refine set_ok h _ ⟨h0.1, by simp only [List.length_append, List.length_cons, List.length_nil]; omega, fun a ha => ?_⟩
    rcases List.mem_append.1 ha with h1 | h1
    · exact h0.2.2 a h1
    obtain rfl : a = bgN e p := by simpa using h1
    exact bgN_ok e p h0.1
  exact h
theorem addAg_length (size : Nat) (es : List GEst) (p : N3) : (addAg size es p).length = es.length := by unfold addAg; split <;> simp
theorem addClaim_length (size : Nat) (es : List GEst) (x : N4) : (addClaim size es x).length = es.length := by unfold addClaim; split <;> simp
def okC (e : GEst) : Prop := e.claims.length ≤ 6 ∧ e.agrs = []
theorem addClaim_ok (size : Nat) (es : List GEst) (x : N4) (h : ∀ e ∈ es, okC e) : ∀ e ∈ addClaim size es x, okC e := by
  unfold addClaim
  split
  · exact h
  rename_i hlt
  have h0 := getD_ok h (show okC ztEst from ⟨by simp [ztEst], rfl⟩) (x.a % size)
  generalize es.getD (x.a % size) ztEst = e at *
  exact set_ok h _ ⟨by simp only [List.length_append, List.length_cons, List.length_nil]; omega, h0.2⟩
theorem owC_len (debts : List GDebt) (p : N3) (i : Nat) : ∀ (l : List GClaim) (c : Nat) (s : OS), s.l.length ≤ 4 → (owC debts p i l c s).l.length ≤ 4
  | [], _, _, h => h
  | y :: l, c, s, h => owC_len debts p i l (c + 1) _ ((owS_k debts p i c y s).2 h)
theorem owE_len (debts : List GDebt) (p : N3) : ∀ (l : List GEst) (i : Nat) (s : OS), s.l.length ≤ 4 → (owE debts p l i s).l.length ≤ 4
  | [], _, _, h => h
  | e :: l, i, s, h => owE_len debts p l (i + 1) _ (owC_len debts p i e.claims 0 s h)
theorem owN_len (g : GGrp) (p : N3) : (owN g p).legs.length ≤ 4 := by
  have := owE_len g.debts p g.ests 0 ⟨0, 0, []⟩ (by simp)
  unfold owN
  dsimp only
  split
  · rw [rvL_len]; exact this
  exact this
theorem addDb_ok (es : List GEst) (ds : List GDebt) (d : N3) (h : ∀ x ∈ ds, x.legs.length ≤ 4) (hl : ds.length ≤ 3) : (∀ x ∈ addDb es ds d, x.legs.length ≤ 4) ∧ (addDb es ds d).length ≤ 3 := by
  unfold addDb
  split
  · refine ⟨fun x hx => ?_, by simp only [List.length_append, List.length_cons, List.length_nil]; omega⟩
    rcases List.mem_append.1 hx with h1 | h1
    · exact h x h1
    obtain rfl : x = owN ⟨es, ds⟩ d := by simpa using h1
    exact owN_len _ _
  exact ⟨h, hl⟩
def cU16 (n : Nat) : List C := [.lit (.int .u16 n)]
theorem cU16_len (n : Nat) : (cU16 n).length = 1 := rfl
def cN4 (x : N4) : List C := [.lit (.int .u16 x.a), .lit (.int .u16 x.b), .lit (.int .u16 x.c), .lit (.int .u16 x.d)]
theorem cN4_len (x : N4) : (cN4 x).length = 4 := rfl
theorem cN3_len (x : N3) : (cN3 x).length = 3 := rfl
theorem cU16_pure (n : Nat) : pureCs (cU16 n) = true := rfl
theorem cN4_pure (x : N4) : pureCs (cN4 x) = true := rfl
end Go.Proofs.YtinaeglgfomlaaaGreatDoor
