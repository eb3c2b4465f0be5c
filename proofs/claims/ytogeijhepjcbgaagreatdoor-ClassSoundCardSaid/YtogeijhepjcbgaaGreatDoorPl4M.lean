/- Plain law: groups whose ranks were changed are valid; the classes that are formed pass the check, and their sums are those of the claims that vote. No walk. -/
import Derived.Test.YtogeijhepjcbgaaGreatDoorLGCM
set_option linter.unusedVariables false
set_option linter.unusedSimpArgs false
set_option linter.defProp false
set_option linter.unnecessarySimpa false
/- Plain law: groups whose ranks were changed are valid; the classes that are formed pass the check, and their sums are those of the claims that vote. No walk. -/
namespace Go.Proofs.YtogeijhepjcbgaaGreatDoor
open Go Go.RowKit
theorem late_getD (bits : Nat) (es : List GEst) (k i : Nat) (h : i < es.length) : ∃ m, (lateE bits es k).getD i ztEst = ⟨(es.getD i ztEst).cash, lateL bits (es.getD i ztEst).claims m, (es.getD i ztEst).agrs⟩ := by
  have h' : i < (lateE bits es k).length := by rw [lateE_len]; exact h
  obtain ⟨m, hm⟩ := lateE_get bits es k i h'
  exact ⟨m, by rw [getD_at _ _ h', getD_at _ _ h, hm]⟩
theorem lateL_holder (bits : Nat) : ∀ (l : List GClaim) (m j : Nat), ((lateL bits l m).getD j default).holder = (l.getD j default).holder
  | [], _, j => rfl
  | c :: l, m, 0 => rfl
  | c :: l, m, j + 1 => by
    have := lateL_holder bits l (m + 1) j
    simpa [lateL] using this
theorem late_in (bits : Nat) (es : List GEst) (k : Nat) (l : Leg) : inEsts (lateE bits es k) l = inEsts es l := by
  simp only [inEsts, lateE_len]
  by_cases h : 0 ≤ l.1 ∧ l.1 < (es.length : Int)
  · obtain ⟨m, hm⟩ := late_getD bits es k l.1.toNat (by omega)
    rw [hm]; simp only [lateL_len]
  by_cases h0 : 0 ≤ l.1
  · have : ¬ l.1 < (es.length : Int) := fun h1 => h ⟨h0, h1⟩
    simp [this]
  simp [h0]
theorem late_at (bits : Nat) (es : List GEst) (k : Nat) (l : Leg) (h : inEsts es l = true) : (claimAt (lateE bits es k) l).holder = (claimAt es l).holder := by
  simp only [inEsts, Bool.and_eq_true, decide_eq_true_eq] at h
  obtain ⟨m, hm⟩ := late_getD bits es k l.1.toNat (by omega)
  simp only [claimAt, hm, lateL_holder]
theorem late_valid (n : Nat) (cash : List Nat) (list : List N4) (pools debts : List N3) (bits : Nat) : cgSpec (lateN n cash list pools debts bits) = 0 := by
  have hv := grpE_v n cash list pools
  have hb := grpE_okB n cash list pools
  have hd := grpN_d n cash list pools debts
  have hl := grpE_len n cash list pools
  refine cg_valid _ (1 + n % 4) (by omega) (by show (lateE bits _ 0).length = _; rw [lateE_len]; exact hl) (fun i hi => ?_) (fun e he => ?_) ⟨hd.1, fun l h => ?_, fun d h => ?_⟩ (by have := (grpN_ok n cash list pools debts).2.1; exact Nat.le_trans this (by decide))
  · have hi' : i < (lateE bits (grpE n cash list pools) 0).length := hi
    obtain ⟨m, hm⟩ := lateE_get bits (grpE n cash list pools) 0 i hi'
    rw [lateE_len] at hi'
    obtain ⟨h1, h2, h3⟩ := hv i hi'
    show vE _ i (lateE bits (grpE n cash list pools) 0)[i]
    rw [hm]
    refine ⟨h1, fun c hc => ?_, fun j hj => ?_⟩
    · obtain ⟨x, hx, e1, e2, e3⟩ := lateL_all bits _ _ c hc
      obtain ⟨a1, a2, a3, a4, a5, a6⟩ := h2 x hx
      exact ⟨by rw [e2]; exact a1, by rw [e2]; exact a2, by rw [e2]; exact a3, by omega, by omega, by rw [e1]; exact a6⟩
    have := h3 j hj
    simp only [lateL_len]
    exact this
  · obtain ⟨d, hd, m, rfl⟩ := lateE_all bits _ 0 e he
    have := hb d hd
    unfold okB at this
    simp only [lateL_len]
    omega
  · show inEsts (lateE bits _ 0) l = true
    rw [late_in]; exact hd.2.1 l h
  obtain ⟨h1, h2, h0, h3⟩ := hd.2.2 d h
  refine ⟨h1, h2, h0, fun l hl => ?_⟩
  have hm : l ∈ legsOf (grpN n cash list pools debts).debts := List.mem_flatten.2 ⟨d.legs, List.mem_map.2 ⟨d, h, rfl⟩, hl⟩
  show (claimAt (lateE bits _ 0) l).holder = h0
  rw [late_at bits (grpE n cash list pools) 0 l (hd.2.1 l hm)]; exact h3 l hl
def idx (P : GClaim → Bool) : List GClaim → Nat → List Int
  | [], _ => []
  | c :: l, k => if P c = true then (k : Int) :: idx P l (k + 1) else idx P l (k + 1)
theorem fmL_idx (r : Int) (s : Bool) (lim : GRat) : ∀ (l : List GClaim) (k : Nat) (out : List Int), fmL r s lim l k out = out ++ idx (pkB r s lim) l k
  | [], _, out => by simp [fmL, idx]
  | c :: l, k, out => by
    simp only [fmL, idx, fmL_idx r s lim l (k + 1)]
    split <;> simp
theorem idx_mem (P : GClaim → Bool) : ∀ (l : List GClaim) (k : Nat) (x : Int), x ∈ idx P l k ↔ ∃ j c, l[j]? = some c ∧ x = ((k + j : Nat) : Int) ∧ P c = true
  | [], _, x => by simp [idx]
  | c :: l, k, x => by
    have ih := idx_mem P l (k + 1) x
    have key : (∃ j d, (c :: l)[j]? = some d ∧ x = ((k + j : Nat) : Int) ∧ P d = true) ↔ (x = (k : Int) ∧ P c = true) ∨ x ∈ idx P l (k + 1) := by
      rw [ih]
      constructor
      · rintro ⟨j, d, h1, h2, h3⟩
        cases j with
        | zero =>
          simp only [List.getElem?_cons_zero, Option.some.injEq] at h1
          subst h1
          exact .inl ⟨by simpa using h2, h3⟩
        | succ j => exact .inr ⟨j, d, by simpa using h1, by rw [h2]; omega, h3⟩
      rintro (⟨h1, h2⟩ | ⟨j, d, h1, h2, h3⟩)
      · exact ⟨0, c, rfl, by simpa using h1, h2⟩
      exact ⟨j + 1, d, by simpa using h1, by rw [h2]; omega, h3⟩
    rw [key]
    simp only [idx]
    split
    · rename_i h; simp [h]
    rename_i h; simp [h]
theorem idx_nodup (P : GClaim → Bool) : ∀ (l : List GClaim) (k : Nat), (idx P l k).Nodup
  | [], _ => by simp [idx]
  | c :: l, k => by
    simp only [idx]
    split
    · refine List.nodup_cons.2 ⟨fun h => ?_, idx_nodup P l (k + 1)⟩
      obtain ⟨j, d, _, h2, _⟩ := (idx_mem P l (k + 1) _).1 h
      omega
    exact idx_nodup P l (k + 1)
theorem fm_mem (e : GEst) (i r : Int) (s : Bool) (lim : GRat) (x : Int) : x ∈ (fmS e i r s lim).claims ↔ ∃ (j : Nat) (c : GClaim), e.claims[j]? = some c ∧ x = (j : Int) ∧ pkB r s lim c = true := by
  have h := idx_mem (pkB r s lim) e.claims 0 x
  simp only [fmS, fmL_idx, List.nil_append, h, Nat.zero_add]
theorem fm_nodup (e : GEst) (i r : Int) (s : Bool) (lim : GRat) : (clLg (fmS e i r s lim)).Nodup := by
  have h := idx_nodup (pkB r s lim) e.claims 0
  simp only [clLg, fmS, fmL_idx, List.nil_append]
  exact h.map _ (fun a b hab he => hab (Prod.mk.inj he).2)
theorem pk_iff (r : Int) (s : Bool) (lim : GRat) (c : GClaim) : pkB r s lim c = true ↔ elB c = true ∧ c.rank = r ∧ decide (qCmp (qOf c.amount) (qOf lim) ≤ 0) = s := by
  unfold pkB
  by_cases h1 : elB c = true
  · by_cases h2 : c.rank = r
    · simp [h1, h2]
    simp [h1, h2]
  simp [h1]
theorem clLegs_append (a b : List GCls) : clLegs (a ++ b) = clLegs a ++ clLegs b := by simp [clLegs]
theorem clLegs_add (out : List GCls) (c : GCls) : clLegs (addCl out c) = clLegs out ++ clLg c := by
  unfold addCl
  split
  · rw [clLegs_append]; simp [clLegs]
  rename_i h
  have : c.claims = [] := List.eq_nil_of_length_eq_zero (by omega)
  simp [clLg, this]
noncomputable def legR (e : GEst) (i : Int) (lim : GRat) : Nat → List Leg
  | 0 => []
  | n + 1 => legR e i lim n ++ (clLg (fmS e i n true lim) ++ clLg (fmS e i n false lim))
noncomputable def legE (lim : GRat) : List GEst → Nat → List Leg
  | [], _ => []
  | e :: l, i => legR e i lim 8 ++ legE lim l (i + 1)
theorem clLegs_rk (e : GEst) (i : Int) (lim : GRat) (out : List GCls) : ∀ n, clLegs (rkN e i lim out n) = clLegs out ++ legR e i lim n
  | 0 => by simp [rkN, legR]
  | n + 1 => by
    simp only [rkN, blN, clLegs_add, clLegs_rk e i lim out n, legR, List.append_assoc]
theorem clLegs_fo (lim : GRat) : ∀ (l : List GEst) (i : Nat) (out : List GCls), clLegs (foE lim l i out) = clLegs out ++ legE lim l i
  | [], _, out => by simp [foE, legE]
  | e :: l, i, out => by simp only [foE, clLegs_fo lim l (i + 1), clLegs_rk, legE, List.append_assoc]
theorem clLg_mem (e : GEst) (i r : Int) (s : Bool) (lim : GRat) (x : Leg) : x ∈ clLg (fmS e i r s lim) ↔ x.1 = i ∧ ∃ (j : Nat) (c : GClaim), e.claims[j]? = some c ∧ x.2 = (j : Int) ∧ pkB r s lim c = true := by
  obtain ⟨a, b⟩ := x
  unfold clLg
  rw [List.mem_map]
  constructor
  · rintro ⟨k, hk, he⟩
    obtain ⟨rfl, rfl⟩ := Prod.mk.inj he
    exact ⟨rfl, (fm_mem e i r s lim k).1 hk⟩
  rintro ⟨h1, h2⟩
  exact ⟨b, (fm_mem e i r s lim b).2 h2, by rw [show (fmS e i r s lim).est = i from rfl]; exact Prod.ext h1.symm rfl⟩
theorem legR_mem (e : GEst) (i : Int) (lim : GRat) (x : Leg) : ∀ n, x ∈ legR e i lim n ↔ x.1 = i ∧ ∃ (j : Nat) (c : GClaim), e.claims[j]? = some c ∧ x.2 = (j : Int) ∧ elB c = true ∧ 0 ≤ c.rank ∧ c.rank < (n : Int)
  | 0 => by
    simp only [legR, List.not_mem_nil, false_iff]
    rintro ⟨_, j, c, _, _, _, h1, h2⟩
    omega
  | n + 1 => by
    simp only [legR, List.mem_append, legR_mem e i lim x n, clLg_mem, pk_iff]
    constructor
    · rintro (⟨h1, j, c, h2, h3, h4, h5, h6⟩ | ⟨h1, j, c, h2, h3, h4, h5, _⟩ | ⟨h1, j, c, h2, h3, h4, h5, _⟩)
      · exact ⟨h1, j, c, h2, h3, h4, h5, by omega⟩
      · exact ⟨h1, j, c, h2, h3, h4, by omega, by omega⟩
      exact ⟨h1, j, c, h2, h3, h4, by omega, by omega⟩
    rintro ⟨h1, j, c, h2, h3, h4, h5, h6⟩
    by_cases hr : c.rank = (n : Int)
    · cases hs : decide (qCmp (qOf c.amount) (qOf lim) ≤ 0) with
      | true => exact .inr (.inl ⟨h1, j, c, h2, h3, h4, hr, hs⟩)
      | false => exact .inr (.inr ⟨h1, j, c, h2, h3, h4, hr, hs⟩)
    exact .inl ⟨h1, j, c, h2, h3, h4, h5, by omega⟩
theorem legR_nodup (e : GEst) (i : Int) (lim : GRat) : ∀ n, (legR e i lim n).Nodup
  | 0 => by simp [legR]
  | n + 1 => by
    simp only [legR, List.nodup_append]
    refine ⟨legR_nodup e i lim n, ⟨fm_nodup _ _ _ _ _, fm_nodup _ _ _ _ _, fun a ha b hb => ?_⟩, fun a ha b hb => ?_⟩
    · rintro rfl
      obtain ⟨_, j, c, h2, h3, h4⟩ := (clLg_mem _ _ _ _ _ _).1 ha
      obtain ⟨_, j', c', h2', h3', h4'⟩ := (clLg_mem _ _ _ _ _ _).1 hb
      obtain rfl : j = j' := by omega
      rw [h2] at h2'
      obtain rfl := Option.some.inj h2'
      rw [pk_iff] at h4 h4'
      rw [h4.2.2] at h4'
      cases h4'.2.2
    rintro rfl
    obtain ⟨_, j, c, h2, h3, _, _, h5⟩ := (legR_mem e i lim a n).1 ha
    rcases List.mem_append.1 hb with hb | hb <;>
    · obtain ⟨_, j', c', h2', h3', h4'⟩ := (clLg_mem _ _ _ _ _ _).1 hb
      obtain rfl : j = j' := by omega
      rw [h2] at h2'
      obtain rfl := Option.some.inj h2'
      rw [pk_iff] at h4'
      omega
theorem legE_mem (lim : GRat) : ∀ (l : List GEst) (i : Nat) (x : Leg), x ∈ legE lim l i ↔ ∃ (k : Nat) (e : GEst) (j : Nat) (c : GClaim), l[k]? = some e ∧ x.1 = ((i + k : Nat) : Int) ∧ e.claims[j]? = some c ∧ x.2 = (j : Int) ∧ elB c = true ∧ 0 ≤ c.rank ∧ c.rank < 8
  | [], i, x => by simp [legE]
  | e :: l, i, x => by
    simp only [legE, List.mem_append, legR_mem, legE_mem lim l (i + 1) x]
    constructor
    · rintro (⟨h1, j, c, h2⟩ | ⟨k, e', j, c, h1, h2, h3⟩)
      · exact ⟨0, e, j, c, rfl, by simpa using h1, h2⟩
      exact ⟨k + 1, e', j, c, by simpa using h1, by rw [h2]; omega, h3⟩
    rintro ⟨k, e', j, c, h1, h2, h3⟩
    cases k with
    | zero =>
      simp only [List.getElem?_cons_zero, Option.some.injEq] at h1
      subst h1
      exact .inl ⟨by simpa using h2, j, c, h3⟩
    | succ k => exact .inr ⟨k, e', j, c, by simpa using h1, by rw [h2]; omega, h3⟩
theorem legE_nodup (lim : GRat) : ∀ (l : List GEst) (i : Nat), (legE lim l i).Nodup
  | [], _ => by simp [legE]
  | e :: l, i => by
    simp only [legE, List.nodup_append]
    refine ⟨legR_nodup e i lim 8, legE_nodup lim l (i + 1), fun a ha b hb => ?_⟩
    rintro rfl
    have h1 := ((legR_mem e i lim a 8).1 ha).1
    obtain ⟨k, _, _, _, _, h2, _⟩ := (legE_mem lim l (i + 1) a).1 hb
    omega
def goodC (g : GGrp) (c : GCls) : Prop := 0 ≤ c.est ∧ c.est < (g.ests.length : Int) ∧ c.claims ≠ [] ∧ ∀ k ∈ c.claims, 0 ≤ k ∧ k < ((g.ests.getD c.est.toNat ztEst).claims.length : Int) ∧ elB ((g.ests.getD c.est.toNat ztEst).claims.getD k.toNat default) = true ∧ ((g.ests.getD c.est.toNat ztEst).claims.getD k.toNat default).rank = c.rank
theorem ckL_good (cl : List GClaim) (est rank : Int) : ∀ (ks : List Int) (T : List Leg), (∀ k ∈ ks, 0 ≤ k ∧ k < (cl.length : Int) ∧ elB (cl.getD k.toNat default) = true ∧ (cl.getD k.toNat default).rank = rank) → (T ++ ks.map fun k => (est, k)).Nodup → ckL cl est rank ks T = (0, T ++ ks.map fun k => (est, k))
  | [], T, _, _ => by simp [ckL]
  | k :: ks, T, h, hn => by
    obtain ⟨h1, h2, h3, h4⟩ := h k (by simp)
    have h5 : (est, k) ∉ T := fun hm => (List.nodup_append.1 hn).2.2 _ hm (est, k) (by simp) rfl
    have ih := ckL_good cl est rank ks (T ++ [(est, k)]) (fun x hx => h x (List.mem_cons_of_mem _ hx)) (by simpa using hn)
    simp only [ckL]
    rw [if_neg (by omega), if_neg (by omega), if_pos h3, if_pos h4, if_neg h5, ih]
    simp
theorem ckA_good (g : GGrp) : ∀ (L : List GCls) (T : List Leg), (∀ c ∈ L, goodC g c) → (T ++ clLegs L).Nodup → ckA g L T = (0, T ++ clLegs L)
  | [], T, _, _ => by simp [ckA, clLegs]
  | c :: L, T, h, hn => by
    obtain ⟨h1, h2, h3, h4⟩ := h c (by simp)
    have e1 : clLegs (c :: L) = clLg c ++ clLegs L := by simp [clLegs]
    rw [e1, ← List.append_assoc] at hn
    have h5 : ckC g c T = (0, T ++ clLg c) := by
      unfold ckC
      rw [if_neg (by omega), if_neg (by omega), if_neg (by have : c.claims.length ≠ 0 := fun h => h3 (List.eq_nil_of_length_eq_zero h)
                                                           omega)]
      exact ckL_good _ _ _ _ _ h4 (List.nodup_append.1 hn).1
    have ih := ckA_good g L (T ++ clLg c) (fun x hx => h x (List.mem_cons_of_mem _ hx)) hn
    simp only [ckA, h5, if_true, ih, e1, List.append_assoc]
theorem addCl_src {Q : GCls → Prop} {out : List GCls} {c : GCls} (h : ∀ x ∈ out, Q x) (hc : c.claims ≠ [] → Q c) : ∀ x ∈ addCl out c, Q x := by
  unfold addCl
  split
  · rename_i hl
    intro x hx
    rcases List.mem_append.1 hx with hx | hx
    · exact h x hx
    obtain rfl : x = c := by simpa using hx
    exact hc (fun h0 => by rw [h0] at hl; simp at hl)
  exact h
theorem rkN_src {Q : GCls → Prop} {e : GEst} {i : Int} {lim : GRat} {out : List GCls} (h : ∀ x ∈ out, Q x) (hQ : ∀ (r : Int) (s : Bool), (fmS e i r s lim).claims ≠ [] → Q (fmS e i r s lim)) : ∀ m, ∀ x ∈ rkN e i lim out m, Q x
  | 0 => h
  | m + 1 => addCl_src (addCl_src (rkN_src h hQ m) (hQ _ _)) (hQ _ _)
theorem foE_src {Q : GCls → Prop} {lim : GRat} : ∀ {l : List GEst} {i : Nat} {out : List GCls}, (∀ x ∈ out, Q x) → (∀ k e, l[k]? = some e → ∀ (r : Int) (s : Bool), (fmS e ((i + k : Nat) : Int) r s lim).claims ≠ [] → Q (fmS e ((i + k : Nat) : Int) r s lim)) → ∀ x ∈ foE lim l i out, Q x
  | [], _, _, h, _ => h
  | e :: l, i, out, h, hQ => foE_src (l := l) (rkN_src h (fun r s => by have := hQ 0 e rfl r s; simpa using this) 8) (fun k e' hk r s => by
      have := hQ (k + 1) e' (by simpa using hk) r s
      rwa [show i + (k + 1) = i + 1 + k by omega] at this)
theorem fo_good (g : GGrp) (lim : GRat) : ∀ c ∈ foE lim g.ests 0 [], goodC g c := by
  refine foE_src (by simp) fun k e hk r s hne => ?_
  have hkl := (List.getElem?_eq_some_iff.1 hk).1
  have hg : g.ests.getD k ztEst = e := by rw [List.getD_eq_getElem?_getD, hk]; rfl
  rw [Nat.zero_add] at hne ⊢
  refine ⟨by show (0 : Int) ≤ (k : Int); omega, by show (k : Int) < _; omega, hne, fun x hx => ?_⟩
  obtain ⟨j, c, h1, rfl, h2⟩ := (fm_mem e k r s lim x).1 hx
  have hjl := (List.getElem?_eq_some_iff.1 h1).1
  rw [pk_iff] at h2
  show 0 ≤ (j : Int) ∧ (j : Int) < ((g.ests.getD ((k : Nat) : Int).toNat ztEst).claims.length : Int) ∧ elB ((g.ests.getD ((k : Nat) : Int).toNat ztEst).claims.getD ((j : Nat) : Int).toNat default) = true ∧ ((g.ests.getD ((k : Nat) : Int).toNat ztEst).claims.getD ((j : Nat) : Int).toNat default).rank = r
  rw [Int.toNat_natCast, Int.toNat_natCast, hg, List.getD_eq_getElem?_getD, h1]
  exact ⟨by omega, by omega, h2.1, h2.2.1⟩
theorem nnC_all {T : List Leg} {i : Nat} : ∀ {l : List GClaim} {k : Nat}, (∀ j c, l[j]? = some c → elB c = true → ((i : Int), ((k + j : Nat) : Int)) ∈ T) → nnC T i l k = true
  | [], _, _ => rfl
  | c :: l, k, h => by
    have ih := nnC_all (T := T) (i := i) (l := l) (k := k + 1) fun j d hj he => by
      have := h (j + 1) d (by simpa using hj) he
      rwa [show k + (j + 1) = k + 1 + j by omega] at this
    simp only [nnC]
    split
    · rename_i he
      have := h 0 c rfl he
      rw [Nat.add_zero] at this
      rw [if_pos this]; exact ih
    exact ih
theorem nnE_all {T : List Leg} : ∀ {l : List GEst} {i : Nat}, (∀ (k : Nat) (e : GEst), l[k]? = some e → ∀ (j : Nat) (c : GClaim), e.claims[j]? = some c → elB c = true → (((i + k : Nat) : Int), (j : Int)) ∈ T) → nnE T l i = true
  | [], _, _ => rfl
  | e :: l, i, h => by
    have ih := nnE_all (T := T) (l := l) (i := i + 1) fun k d hk j c hj he => by
      have := h (k + 1) d (by simpa using hk) j c hj he
      rwa [show i + (k + 1) = i + 1 + k by omega] at this
    have h0 : nnC T i e.claims 0 = true := nnC_all fun j c hj he => by
      have := h 0 e rfl j c hj he
      simpa using this
    simp only [nnE, h0, if_true, ih]
theorem fo_check (g : GGrp) (lim : GRat) (hn : g.ests.length ≤ 4) (hr : ∀ e ∈ g.ests, ∀ c ∈ e.claims, 0 ≤ c.rank ∧ c.rank ≤ 7) : ckS 0 g (foE lim g.ests 0 []) = 0 := by
  have hl := foE_len lim g.ests 0 []
  have hc := clLegs_fo lim g.ests 0 []
  simp only [List.length_nil] at hl
  rw [show clLegs [] = [] from rfl, List.nil_append] at hc
  have hk := ckA_good g (foE lim g.ests 0 []) [] (fo_good g lim) (by rw [List.nil_append, hc]; exact legE_nodup lim g.ests 0)
  unfold ckS
  rw [if_pos rfl, if_neg (by omega), hk]
  simp only [if_true, List.nil_append]
  rw [if_pos]
  refine nnE_all fun k e hk j c hj he => ?_
  have hm := hr e (List.mem_of_getElem? hk) c (List.mem_of_getElem? hj)
  rw [hc, legE_mem]
  exact ⟨k, e, j, c, hk, by simp, hj, rfl, he, hm.1, by omega⟩
def sumF (f : Leg → Rat) : List Leg → Rat
  | [] => 0
  | x :: l => f x + sumF f l
theorem sumF_append (f : Leg → Rat) : ∀ (a b : List Leg), sumF f (a ++ b) = sumF f a + sumF f b
  | [], b => by simp only [List.nil_append, sumF]; grind
  | x :: a, b => by simp only [List.cons_append, sumF, sumF_append f a b]; grind
theorem sumF_perm (f : Leg → Rat) {a b : List Leg} (h : a.Perm b) : sumF f a = sumF f b := by
  induction h with
  | nil => rfl
  | cons x _ ih => simp only [sumF, ih]
  | swap x y l => simp only [sumF]; grind
  | trans _ _ h1 h2 => exact h1.trans h2
theorem sumF_filter (f : Leg → Rat) (p : Leg → Bool) : ∀ l : List Leg, sumF f (l.filter p) = sumF (fun x => if p x = true then f x else 0) l
  | [] => rfl
  | x :: l => by
    by_cases h : p x = true
    · rw [List.filter_cons_of_pos h]; simp only [sumF, h, if_true, sumF_filter f p l]
    rw [List.filter_cons_of_neg h]; simp only [sumF, h, if_false, sumF_filter f p l]; grind
noncomputable def amA (es : List GEst) (x : Leg) : Rat := qOf (claimAt es x).amount
theorem smL_sum (es : List GEst) (est : Int) : ∀ (ks : List Int) (q : Rat), (∀ k ∈ ks, 0 ≤ k ∧ k < ((es.getD est.toNat ztEst).claims.length : Int)) → smL (es.getD est.toNat ztEst).claims ks q = (0, q + sumF (amA es) (ks.map fun k => (est, k)))
  | [], q, _ => by
    simp only [smL, List.map_nil, sumF]
    congr 1; grind
  | k :: ks, q, h => by
    have h1 := h k (by simp)
    simp only [smL]
    rw [if_neg (by omega), if_neg (by omega), smL_sum es est ks _ fun x hx => h x (List.mem_cons_of_mem _ hx)]
    simp only [List.map_cons, sumF, amA, claimAt]
    congr 1; grind
theorem smS_good (g : GGrp) (c : GCls) (h : goodC g c) : smS 0 g c = (0, sumF (amA g.ests) (clLg c)) := by
  obtain ⟨h1, h2, _, h4⟩ := h
  unfold smS
  rw [if_pos rfl, if_neg (by omega), if_neg (by omega), smL_sum g.ests c.est c.claims 0 fun k hk => ⟨(h4 k hk).1, (h4 k hk).2.1⟩]
  unfold clLg
  congr 1; grind
noncomputable def tsL (g : GGrp) : List GCls → Rat → Rat
  | [], q => q
  | c :: l, q => tsL g l (q + (smS 0 g c).2)
theorem tsL_sum (g : GGrp) : ∀ (L : List GCls) (q : Rat), (∀ c ∈ L, goodC g c) → tsL g L q = q + sumF (amA g.ests) (clLegs L)
  | [], q, _ => by simp only [tsL, clLegs, List.map_nil, List.flatten_nil, sumF]; grind
  | c :: L, q, h => by
    have e1 : clLegs (c :: L) = clLg c ++ clLegs L := by simp [clLegs]
    rw [tsL, tsL_sum g L _ fun x hx => h x (List.mem_cons_of_mem _ hx), smS_good g c (h c (by simp)), e1, sumF_append]
    dsimp only
    grind
noncomputable def alC : List GClaim → Rat → Rat
  | [], q => q
  | c :: l, q => alC l (if c.holder = -1 then q + qOf c.amount else q)
noncomputable def alE : List GEst → Rat → Rat
  | [], q => q
  | e :: l, q => alE l (alC e.claims q)
noncomputable def voW (c : GClaim) : Rat := if c.holder = -1 then qOf c.amount else 0
theorem alC_sum (es : List GEst) (i : Nat) (e : GEst) (he : es[i]? = some e) : ∀ (l : List GClaim) (c : Nat) (q : Rat), l = e.claims.drop c → alC l q = q + sumF (fun x => voW (claimAt es x)) (celC i l c)
  | [], c, q, _ => by simp only [alC, celC, sumF]; grind
  | y :: l, c, q, hl => by
    have hc : c < e.claims.length := by
      rcases Nat.lt_or_ge c e.claims.length with h | h
      · exact h
      rw [List.drop_eq_nil_of_le h] at hl; cases hl
    rw [List.drop_eq_getElem_cons hc] at hl
    obtain ⟨h1, h2⟩ := List.cons.inj hl
    have hat : claimAt es ((i : Int), (c : Int)) = y := by
      simp only [claimAt, Int.toNat_natCast]
      rw [List.getD_eq_getElem?_getD, List.getD_eq_getElem?_getD, he]
      show (e.claims[c]?).getD default = y
      rw [List.getElem?_eq_getElem hc, h1]; rfl
    rw [alC, alC_sum es i e he l (c + 1) _ h2]
    simp only [celC, sumF, hat, voW]
    split <;> grind
theorem alE_sum (es : List GEst) : ∀ (l : List GEst) (i : Nat) (q : Rat), l = es.drop i → alE l q = q + sumF (fun x => voW (claimAt es x)) (celE l i)
  | [], i, q, _ => by simp only [alE, celE, sumF]; grind
  | e :: l, i, q, hl => by
    have hc : i < es.length := by
      rcases Nat.lt_or_ge i es.length with h | h
      · exact h
      rw [List.drop_eq_nil_of_le h] at hl; cases hl
    rw [List.drop_eq_getElem_cons hc] at hl
    obtain ⟨h1, h2⟩ := List.cons.inj hl
    rw [alE, alE_sum es l (i + 1) _ h2, alC_sum es i e (by rw [List.getElem?_eq_getElem hc, h1]) e.claims 0 q (by simp)]
    simp only [celE, sumF_append]
    grind
theorem el_vo (c : GClaim) (h : 0 ≤ qSgn (qOf c.amount)) : (if elB c = true then qOf c.amount else 0) = voW c := by
  unfold voW elB
  by_cases h1 : c.holder = -1
  · rw [if_pos h1, if_pos h1]
    by_cases h2 : 0 < qSgn (qOf c.amount)
    · simp [h2]
    have h3 : qOf c.amount = 0 := by
      unfold qSgn qCmp at h h2
      grind
    simp [h2, h3]
  rw [if_neg h1, if_neg h1]; simp
theorem fo_sums (g : GGrp) (lim : GRat) (hr : ∀ e ∈ g.ests, ∀ c ∈ e.claims, 0 ≤ c.rank ∧ c.rank ≤ 7 ∧ 0 ≤ qSgn (qOf c.amount)) : tsL g (foE lim g.ests 0 []) 0 = alE g.ests 0 := by
  have hc := clLegs_fo lim g.ests 0 []
  rw [show clLegs [] = [] from rfl, List.nil_append] at hc
  rw [tsL_sum g _ 0 (fo_good g lim), hc, alE_sum g.ests g.ests 0 0 (by simp)]
  congr 1
  have key : ∀ x ∈ celE g.ests 0, ∃ (e : GEst) (j : Nat) (c : GClaim), g.ests[x.1.toNat]? = some e ∧ x.1 = (x.1.toNat : Int) ∧ e.claims[j]? = some c ∧ x.2 = (j : Int) ∧ claimAt g.ests x = c := fun x hx => by
    obtain ⟨k, e, h1, h2, h3, h4⟩ := (celE_mem g.ests 0 x).1 hx
    have hk : x.1.toNat = k := by omega
    have hj : x.2.toNat < e.claims.length := by omega
    refine ⟨e, x.2.toNat, e.claims[x.2.toNat], by rw [hk]; exact h1, by omega, List.getElem?_eq_getElem hj, by omega, ?_⟩
    simp only [claimAt]
    rw [List.getD_eq_getElem?_getD, List.getD_eq_getElem?_getD, hk, h1]
    show (e.claims[x.2.toNat]?).getD default = _
    rw [List.getElem?_eq_getElem hj]; rfl
  have hp : (legE lim g.ests 0).Perm ((celE g.ests 0).filter fun x => elB (claimAt g.ests x)) := by
    refine (List.perm_ext_iff_of_nodup (legE_nodup lim g.ests 0) ((celE_nodup g.ests 0).filter _)).2 fun a => ?_
    rw [List.mem_filter, legE_mem]
    constructor
    · rintro ⟨k, e, j, c, h1, h2, h3, h4, h5, h6⟩
      have hjl := (List.getElem?_eq_some_iff.1 h3).1
      have hm : a ∈ celE g.ests 0 := (celE_mem g.ests 0 a).2 ⟨k, e, h1, h2, by omega, by omega⟩
      refine ⟨hm, ?_⟩
      obtain ⟨e', j', c', q1, q2, q3, q4, q5⟩ := key a hm
      have hk : a.1.toNat = k := by omega
      rw [hk, h1] at q1
      obtain rfl := Option.some.inj q1
      obtain rfl : j = j' := by omega
      rw [h3] at q3
      obtain rfl := Option.some.inj q3
      rw [q5]; exact h5
    rintro ⟨hm, he⟩
    obtain ⟨e, j, c, q1, q2, q3, q4, q5⟩ := key a hm
    rw [q5] at he
    have := hr e (List.mem_of_getElem? q1) c (List.mem_of_getElem? q3)
    exact ⟨a.1.toNat, e, j, c, q1, by omega, q3, q4, he, this.1, by omega⟩
  rw [sumF_perm _ hp, sumF_filter]
  have hcong : ∀ (l : List Leg), (∀ x ∈ l, x ∈ celE g.ests 0) → sumF (fun x => if elB (claimAt g.ests x) = true then amA g.ests x else 0) l = sumF (fun x => voW (claimAt g.ests x)) l := fun l => by
    induction l with
    | nil => intro _; rfl
    | cons x l ih =>
      intro h
      obtain ⟨e, j, c, q1, q2, q3, q4, q5⟩ := key x (h x (by simp))
      have h0 := hr e (List.mem_of_getElem? q1) c (List.mem_of_getElem? q3)
      rw [← q5] at h0
      simp only [sumF]
      rw [ih fun y hy => h y (List.mem_cons_of_mem _ hy)]
      congr 1
      exact el_vo _ h0.2.2
  exact hcong _ fun _ h => h
end Go.Proofs.YtogeijhepjcbgaaGreatDoor
