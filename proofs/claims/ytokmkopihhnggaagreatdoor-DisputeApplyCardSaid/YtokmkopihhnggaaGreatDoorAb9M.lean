/- The abstract machine: regions, control, a function's contract. No program in sight. -/
import Derived.Test.YtokmkopihhnggaaGreatDoorAbMM
set_option linter.unusedVariables false
set_option linter.unusedSimpArgs false
set_option linter.unusedSectionVars false
namespace Go.Proofs.YtokmkopihhnggaaGreatDoor
open Go Go.RowKit
def guardsOf (ops : Array Oper) : List (Option (Nat × Bool)) :=
 ops.toList.map fun o => match o.guard with
  | none => none
  | some (j, want) => some (((ops[j]?).bind (·.dst)).getD 1000000, want)
def gd (g : Option (Nat × Bool)) (st : St) : Option Bool :=
 match g with
 | none => some true
 | some (s, want) => match st.tm s with
  | .val (.one (.lit (.bool b))) => some (b == want)
  | .tup _ => some false
  | _ => none
def putO (st : St) (dst : Option Nat) (x : AV) : St :=
 match dst with
 | some d => ⟨up st.tm d x, st.H, st.nx, st.nb⟩
 | none => st
def orS (a b : Option (Prop × AV)) : Option (Prop × AV) :=
 match a with
 | some r => some r
 | none => b
def stillB (P : Program) (st : St) (op : Op) : Option (Prop × AV) :=
 match op with
 | .build t parts => stillBuild P st t parts
 | .lookup t m k ok => stillLook P st (.lookup t m k ok)
 | .slice t x lo hi none => orS (stillNil P st t x lo hi) (still P st (.slice t x lo hi none))
 | .call { callee := .builtin .cap, args, argTypes } => stillCap P st args argTypes
 | .call { callee := .builtin .min, args, .. } => stillMM false st args
 | .call { callee := .builtin .max, args, .. } => stillMM true st args
 | op => still P st op
def writes : Op → Bool
 | .store .. => true
 | .mapUpdate .. => true
 | .call { callee := .builtin .append, .. } => true
 | _ => false
def Later (K : St → Prop) (st : St) : Prop := K st
def fin1 (r : Option (Prop × AV)) (d N : Nat) (K : St → Prop) (st : St) : Prop :=
 match r with
 | some (p, x) => d < N ∧ p ∧ K ⟨up st.tm d x, st.H, st.nx, st.nb⟩
 | none => False
def fin2 (r : Option (Prop × St)) (d N : Nat) (K : St → Prop) : Prop :=
 match r with
 | some (p, st') => d < N ∧ p ∧ K st'
 | none => False
def finOr (r1 r2 : Option (Prop × St)) (d N : Nat) (K : St → Prop) : Prop :=
 match r1 with
 | some x => fin2 (some x) d N K
 | none => fin2 r2 d N K
def finSl (r1 : Option (Prop × St)) (r2 : Option (Prop × AV)) (d N : Nat) (K : St → Prop) (st : St) : Prop :=
 match r1 with
 | some x => fin2 (some x) d N K
 | none => fin1 r2 d N K st
def fin0 (r : Option (Prop × St)) (K : St → Prop) : Prop :=
 match r with
 | some (p, st') => p ∧ K st'
 | none => False
def finC (P : Program) (f : FuncId) (r : Option (Prop × List A1 × Bool)) (d N : Nat) (K : St → Prop) (st : St) : Prop :=
 match r with
 | some (p, ys, b) => d < N ∧ p ∧ ∃ res, ACall P f ys res ∧ allA (if b then flat1 else pure1) res = true ∧ Later K ⟨up st.tm d res, st.H, st.nx, st.nb⟩
 | none => False
def LaterI (R : AV → Hp → Nat → Prop) (d : Nat) (K : St → Prop) (tm : Nat → AV) (nb : Nat) : Prop := ∀ res H nx, R res H nx → K ⟨up tm d res, H, nx, nb⟩
def finI (P : Program) (f : FuncId) (r : Option (List A1)) (d N : Nat) (K : St → Prop) (st : St) : Prop :=
 match r with
 | some ys => d < N ∧ ∃ R, ACallI P f ys st.H st.nx R ∧ LaterI R d K st.tm st.nb
 | none => False
def hasN : List Nat → Nat → Bool
 | [], _ => false
 | x :: l, d => x == d || hasN l d
def finX (P : Program) (f : FuncId) (inl : Bool) (xs : List AV) (d N : Nat) (K : St → Prop) (st : St) : Prop :=
 match inl with
 | true => finI P f (raws xs) d N K st
 | false => finC P f (snaps st xs) d N K st
def fnOf : AV → Option FuncId
 | .val (.one (.lit (.func (.func f) fi ca))) => if fi = #[] ∧ ca = #[] then some f else none
 | _ => none
def finF (P : Program) (f : Option FuncId) (inl : Bool) (xs : List AV) (d N : Nat) (K : St → Prop) (st : St) : Prop :=
 match f with
 | some f => finX P f inl xs d N K st
 | none => False
def stepA (P : Program) (N : Nat) (I : List Nat) (st : St) (o : Oper) (K : St → Prop) : Prop :=
 match o.op, o.dst with
 | .call { callee := .value x, args, .. }, some d => finF P (fnOf (ev st x)) (hasN I d) (args.toList.map (ev st)) d N K st
 | .call { callee := .builtin .append, args, argTypes }, some d => finOr (effZ P st d args argTypes) (eff P st d (.call { callee := .builtin .append, args, argTypes })) d N K
 | .slice t x lo hi none, some d => finSl (effSl P st d t x lo hi) (stillB P st (.slice t x lo hi none)) d N K st
 | .store t x y, none => fin0 (eff P st 0 (.store t x y)) K
 | .mapUpdate t m k v, none => fin0 (effPut P st t m k v) K
 | .makeMap t none, some d => fin2 (effMk P st d t) d N K
 | .alloc t, some d => fin2 (eff P st d (.alloc t)) d N K
 | .box t x, some d => fin2 (eff P st d (.box t x)) d N K
 | .buildSlice t l ps, some d => fin2 (eff P st d (.buildSlice t l ps)) d N K
 | .makeSlice t l c, some d => fin2 (eff P st d (.makeSlice t l c)) d N K
 | op, some d => fin1 (stillB P st op) d N K st
 | _, none => False
section
variable {P : Program} {e : En} {k0 : Kx} {N : Nat} {st st' : St} {a : Act} {w : World} {σ : Nat → Value} {o : Oper} {p : Prop} {x : AV} {d : Nat} {K : Act → World → Prop} {Q : Exit → Act → World → Prop}
theorem stillB_ok (hW : RW e st.H st.nx σ w) (ht : ∀ t, denA (kx e st.H st.nx σ w) (a.tmps.getD t undef) (st.tm t)) (h : stillB P st o.op = some (p, x)) (hp : p) : Yl P o a w (kx e st.H st.nx σ w) x := by
 unfold stillB at h
 split at h
 ·rename_i hop; exact stillBuild_ok ht hop h hp
 ·rename_i hop; rw [← hop] at h; exact stillLook_ok hW ht h hp
 ·rename_i hop
  unfold orS at h
  split at h
  ·rename_i hn
   obtain rfl := Option.some.inj h
   exact stillNil_ok ht hop hn hp
  exact still_ok hW ht (by rw [hop]; exact h) hp
 ·rename_i hop; exact stillCap_ok ht hop h
 ·rename_i hop; exact stillMM_ok false ht hop h
 ·rename_i hop; exact stillMM_ok true ht hop h
 exact still_ok hW ht h hp
theorem wp_still (hr : Rel e k0 N st a w) (hdst : o.dst = some d) (hdN : d < N) (h : stillB P st o.op = some (p, x)) (hp : p) (hK : ∀ a' w', Rel e k0 N ⟨up st.tm d x, st.H, st.nx, st.nb⟩ a' w' → FL w w' → K a' w') : o.wp P a w K Q := by
 obtain ⟨σ, h1, h2, h3⟩ := hr.ex
 obtain ⟨v, k1, k2⟩ := stillB_ok h1 h2 h hp
 refine wp_value (k1 w (.inl (FL.refl w))) ?_
 rw [hdst]
 exact hK _ _ (hr.put h1 h2 h3 (Ext.refl _) k2 d hdN) (FL.refl w)
theorem stepA_ok {I : List Nat} {S : St → Prop} (hr : Rel e k0 N st a w) (h : stepA P N I st o S) (hK : ∀ st' a' w', S st' → Rel e k0 N st' a' w' → (I = [] → writes o.op = false → FL w w') → K a' w') : o.wp P a w K Q := by
  unfold stepA at h
  split at h <;> try (exact h.elim; done)
  · rename_i x args tys d hop hdst
    unfold finF at h
    split at h <;> try (exact h.elim; done)
    rename_i f hfn
    have hg : goesTo a { callee := .value x, args := args, argTypes := tys } f := by
      obtain ⟨σ, _, h2, _⟩ := hr.ex
      have h3 := ev_den h2 x
      unfold fnOf at hfn
      split at hfn <;> try (cases hfn; done)
      rename_i g fi ca hev
      split at hfn <;> try (cases hfn; done)
      rename_i hc
      obtain rfl := Option.some.inj hfn
      rw [hev] at h3
      simp only [denA, den1, den] at h3
      exact ⟨x, rfl, by rw [h3.1, hc.1, hc.2]⟩
    unfold finX at h
    split at h
    · rename_i hin
      unfold finI at h
      split at h <;> try (exact h.elim; done)
      rename_i ys hs
      obtain ⟨hd, R, hc, hL⟩ := h
      refine wp_inline hr hdst hd hop hg hs hc fun res H nx hR a' w' h1 => hK _ a' w' (hL res H nx hR) h1 fun hI => ?_
      subst hI
      simp [hasN] at hin
    unfold finC at h
    split at h <;> try (exact h.elim; done)
    rename_i p ys b hs
    obtain ⟨hd, hp, res, hc, hres, hS⟩ := h
    exact wp_acall hr hdst hd hop hg hs hp hc hres fun a' w' h1 h2 => hK _ a' w' hS h1 fun _ _ => h2
  · rename_i args tys d hop hdst
    unfold finOr at h
    split at h
    · rename_i x hz
      obtain ⟨p, st'⟩ := x
      obtain ⟨hd, hp, hS⟩ := h
      refine wp_zeros (st' := st') hr hdst hd hop hz hp fun a' w' h1 => hK _ a' w' hS h1 fun _ hw => ?_
      rw [hop] at hw
      simp [writes] at hw
    unfold fin2 at h
    split at h <;> try (exact h.elim; done)
    rename_i p st' he
    obtain ⟨hd, hp, hS⟩ := h
    have he2 := he
    simp only [eff] at he2
    split at he2 <;> try (cases he2; done)
    rename_i s y t t' ha hty
    have hae : args = #[s, y] := Array.toList_inj.1 ha
    have hte : tys = #[t, t'] := Array.toList_inj.1 hty
    refine wp_append (st' := st') hr hdst hd hop rfl hae hte (by rw [hop]; exact he) hp fun a' w' h1 => hK _ a' w' hS h1 fun _ hw => ?_
    rw [hop] at hw
    simp [writes] at hw
  · rename_i t x lo hi d hop hdst
    unfold finSl at h
    split at h
    · rename_i x hz
      obtain ⟨p, st'⟩ := x
      obtain ⟨hd, hp, hS⟩ := h
      exact wp_cutRow (st' := st') hr hdst hd hop hz hp fun a' w' h1 h2 => hK _ a' w' hS h1 fun _ _ => h2
    unfold fin1 at h
    split at h <;> try (exact h.elim; done)
    rename_i p x he
    obtain ⟨hd, hp, hS⟩ := h
    exact wp_still hr hdst hd (by rw [hop]; exact he) hp fun a' w' h1 h2 => hK _ a' w' hS h1 fun _ _ => h2
  · rename_i t x y hop hdst
    unfold fin0 at h
    split at h <;> try (exact h.elim; done)
    rename_i p st' he
    obtain ⟨hp, hS⟩ := h
    refine wp_store (d := 0) (st' := st') hr hdst hop (by rw [hop]; exact he) hp fun a' w' h1 => hK _ a' w' hS h1 fun _ hw => ?_
    rw [hop] at hw
    simp [writes] at hw
  · rename_i t m k v hop hdst
    unfold fin0 at h
    split at h <;> try (exact h.elim; done)
    rename_i p st' he
    obtain ⟨hp, hS⟩ := h
    refine wp_put (st' := st') hr hdst hop he hp fun a' w' h1 => hK _ a' w' hS h1 fun _ hw => ?_
    rw [hop] at hw
    simp [writes] at hw
  · rename_i t d hop hdst
    unfold fin2 at h
    split at h <;> try (exact h.elim; done)
    rename_i p st' he
    obtain ⟨hd, hp, hS⟩ := h
    exact wp_mk (st' := st') hr hdst hd hop he fun a' w' h1 h2 => hK _ a' w' hS h1 fun _ _ => h2
  all_goals
    rename_i hop hdst
    first
      | unfold fin2 at h
      | unfold fin1 at h
    split at h <;> try (exact h.elim; done)
    first
      | (rename_i p st' he
         obtain ⟨hd, hp, hS⟩ := h
         exact wp_eff (st' := st') hr hdst hd (by rw [hop]; exact he) hp (by rw [hop]; intro c; simp) (by rw [hop]; intro t x y; simp) fun a' w' h1 h2 => hK _ a' w' hS h1 fun _ _ => h2)
      | (rename_i p x he
         obtain ⟨hd, hp, hS⟩ := h
         exact wp_still hr (by assumption) hd he hp fun a' w' h1 h2 => hK _ a' w' hS h1 fun _ _ => h2)
theorem gd_ok {ops : Array Oper} {b : Bool} {g : Option (Nat × Bool)} (hr : Rel e k0 N st a w) (hN : N < 1000000) (hgo : g = match o.guard with
    | none => none
    | some (j, want) => some (((ops[j]?).bind (·.dst)).getD 1000000, want)) (h : gd g st = some b) : Region.wanted o (yielded ops a.tmps) = b := by
  unfold gd at h
  split at h
  · obtain rfl := Option.some.inj h
    cases hg : o.guard with
    | none => simp [Region.wanted, hg]
    | some q => rw [hg] at hgo; cases hgo
  rename_i s want
  cases hg : o.guard with
  | none => rw [hg] at hgo; cases hgo
  | some q =>
    obtain ⟨j, want'⟩ := q
    rw [hg] at hgo
    simp only [Option.some.injEq, Prod.mk.injEq] at hgo
    obtain ⟨hs, rfl⟩ := hgo
    split at h <;> try (cases h; done)
    rotate_left
    · rename_i l ht
      obtain rfl := Option.some.inj h
      obtain ⟨σ, _, h2, _⟩ := hr.ex
      have h3 := h2 s
      rw [ht] at h3
      obtain ⟨vs, h4, _⟩ := h3
      have hy : ∀ b, yielded ops a.tmps j ≠ some b := fun b hb => by
        cases hd : (ops[j]?).bind (·.dst) with
        | none => simp [yielded, hd] at hb
        | some s' =>
          have hss : s' = s := by rw [hd] at hs; simpa using hs.symm
          rw [hss] at hd
          by_cases hlt : s < a.tmps.size
          · have h5 : a.tmps[s]? = some (.tuple vs.toArray) := by
              simp only [Array.getD, hlt, dif_pos] at h4
              simp [hlt]; exact h4
            simp [yielded, hd, h5] at hb
          have h5 : a.tmps[s]? = none := Array.getElem?_eq_none (Nat.not_lt.1 hlt)
          simp [yielded, hd, h5] at hb
      simp only [Region.wanted, hg]
      cases hyy : yielded ops a.tmps j with
      | none => rfl
      | some b => exact absurd hyy (hy b)
    rename_i t ht
    obtain rfl := Option.some.inj h
    obtain ⟨σ, _, h2, _⟩ := hr.ex
    have h3 := h2 s
    rw [ht] at h3
    simp only [denA, den1, den] at h3
    have hlt : s < a.tmps.size := by
      rcases Nat.lt_or_ge s a.tmps.size with h | h
      · exact h
      have := h3.1
      simp [Array.getD, Nat.not_lt.2 h, undef] at this
    have hsz := hr.sz
    have hds : (ops[j]?).bind (·.dst) = some s := by
      cases hd : (ops[j]?).bind (·.dst) with
      | none => rw [hd] at hs; simp at hs; omega
      | some s' => rw [hd] at hs; simp at hs; rw [hs]
    have hv : a.tmps[s]? = some (.bool t) := by
      have := h3.1
      simp only [Array.getD, hlt, dif_pos] at this
      simp [hlt]; exact this
    simp [Region.wanted, hg, yielded, hds, hv]
theorem Rel.dead (hr : Rel e k0 N st a w) (dst : Option Nat) : Rel e k0 N (putO st dst (.tup [])) (a.put dst undef) w := by
 obtain ⟨σ, h1, h2, h3⟩ := hr.ex
 cases dst with
 | none => exact hr
 | some d =>
  by_cases hd : d < N
  ·exact hr.put h1 h2 h3 (Ext.refl _) (x := .tup []) ⟨[], rfl, trivial⟩ d hd
  refine ⟨⟨σ, h1, fun t => ?_, h3⟩, hr.df, by simp [Act.put, hr.sz]⟩
  have hsz := hr.sz
  have : a.tmps.setIfInBounds d undef = a.tmps := by
   apply Array.ext
   ·simp
   intro i h4 h5
   rw [Array.getElem_setIfInBounds (by simpa using h4)]
   rw [if_neg (by omega)]
  simp only [Act.put, this, putO]
  by_cases htd : t = d
  ·subst htd; rw [up_same]; exact ⟨[], by simp [Array.getD, hsz, hd, undef], trivial⟩
  rw [up_ne _ _ htd]; exact h2 t
end
def AL (P : Program) (N : Nat) (I : List Nat) (Q : St → Prop) : List Oper → List (Option (Nat × Bool)) → St → Prop
 | o :: os, g :: gs, st => match gd g st with
  | some true => stepA P N I st o (AL P N I Q os gs)
  | some false => AL P N I Q os gs (putO st o.dst (.tup []))
  | none => False
 | [], _, st => Q st
 | _, _, _ => False
inductive SchO where
 | nil : SchO
 | take : Oper → Option (Nat × Bool) → SchO → SchO
 | eff : Oper → Option (Nat × Bool) → SchO → SchO
 | two : Oper → Oper → SchO → SchO → SchO
def SchO.fits (ops : Array Oper) (gs : List (Option (Nat × Bool))) : SchO → Sch → Prop
 | .nil, .nil => True
 | .take o g r, .cons i true s => ops[i]? = some o ∧ gs[i]? = some g ∧ SchO.fits ops gs r s
 | .eff o g r, .cons i false s => ops[i]? = some o ∧ gs[i]? = some g ∧ SchO.fits ops gs r s
 | .two oi oj r r', .two i j s s' => ops[i]? = some oi ∧ gs[i]? = some none ∧ ops[j]? = some oj ∧ gs[j]? = some none ∧ SchO.fits ops gs r s ∧ SchO.fits ops gs r' s'
 | _, _ => False
def SchO.mk (ops : Array Oper) (gs : List (Option (Nat × Bool))) : Sch → Option SchO
 | .nil => some .nil
 | .cons i b r => match ops[i]?, gs[i]?, SchO.mk ops gs r with
  | some o, some g, some r' => some (if b then .take o g r' else .eff o g r')
  | _, _, _ => none
 | .two i j r s => match ops[i]?, gs[i]?, ops[j]?, gs[j]?, SchO.mk ops gs r, SchO.mk ops gs s with
  | some oi, some none, some oj, some none, some r', some s' => some (.two oi oj r' s')
  | _, _, _, _, _, _ => none
theorem SchO.mk_fits {ops : Array Oper} {gs : List (Option (Nat × Bool))} : ∀ {s : Sch} {r : SchO}, SchO.mk ops gs s = some r → SchO.fits ops gs r s
 | .nil, r, h => by simp [SchO.mk] at h; subst h; trivial
 | .cons i b s, r, h => by
  simp only [SchO.mk] at h
  split at h <;> try (cases h; done)
  rename_i o g r' h1 h2 h3
  obtain rfl := Option.some.inj h
  cases b
  ·exact ⟨h1, h2, SchO.mk_fits h3⟩
  exact ⟨h1, h2, SchO.mk_fits h3⟩
 | .two i j s s', r, h => by
  simp only [SchO.mk] at h
  split at h <;> try (cases h; done)
  rename_i oi oj r1 r2 h1 h2 h3 h4 h5 h6
  obtain rfl := Option.some.inj h
  exact ⟨h1, h2, h3, h4, SchO.mk_fits h5, SchO.mk_fits h6⟩
def AT (P : Program) (N : Nat) (Q : St → Prop) : SchO → St → Prop
 | .nil, st => Q st
 | .take o g r, st => match gd g st with
  | some true => match o.dst, stillB P st o.op with
   | some d, some (p, x) => d < N ∧ p ∧ AT P N Q r ⟨up st.tm d x, st.H, st.nx, st.nb⟩
   | _, _ => False
  | some false => AT P N Q r (putO st o.dst (.tup []))
  | none => False
 | .eff o g r, st => match gd g st with
  | some true => stepA P N [] st o (AT P N Q r)
  | some false => AT P N Q r (putO st o.dst (.tup []))
  | none => False
 | .two oi oj r s, st => stepA P N [] st oi (AT P N Q r) ∧ stepA P N [] st oj (AT P N Q s)
section
variable {P : Program} {e : En} {k0 : Kx} {N : Nat} {st st' : St} {Q : Exit → St → Prop} {ops : Array Oper}
theorem AL_ok {I : List Nat} (hN : N < 1000000) : ∀ (l : List Oper) (gs : List (Option (Nat × Bool))) (st : St) (a : Act) (w : World), (gs = l.map fun o => match o.guard with
  | none => none
  | some (j, want) => some (((ops[j]?).bind (·.dst)).getD 1000000, want)) → AL P N I (Q .normal) l gs st → Rel e k0 N st a w → wpList P ops (APost e k0 N Q) l a w
 | [], _, st, a, w, _, h, hr => by
  simp only [AL] at h
  exact ⟨fun c => by simp, st, h, hr⟩
 | o :: os, [], _, _, _, hg, _, _ => by simp at hg
 | o :: os, g :: gs, st, a, w, hgs, h, hr => by
  simp only [List.map_cons, List.cons.injEq] at hgs
  simp only [AL] at h
  split at h <;> try (exact h.elim; done)
  ·rename_i hg
   refine wpList_step fun K hK => ?_
   rw [if_pos (gd_ok hr hN hgs.1 hg)]
   exact stepA_ok hr h fun st' a' w' hS hr' _ => hK _ _ (AL_ok hN os gs st' a' w' hgs.2 hS hr')
  rename_i hg
  refine wpList_step fun K hK => ?_
  rw [if_neg (by rw [gd_ok hr hN hgs.1 hg]; simp)]
  exact hK _ _ (AL_ok hN os gs _ _ _ hgs.2 h (hr.dead o.dst))
def keepsF (ops : Array Oper) (i : Nat) : Bool := match ops[i]? with
 | some o => !(writes o.op)
 | none => true
theorem guardsOf_get {i : Nat} {o : Oper} {g : Option (Nat × Bool)} (ho : ops[i]? = some o) (hg : (guardsOf ops)[i]? = some g) : g = match o.guard with
  | none => none
  | some (j, want) => some (((ops[j]?).bind (·.dst)).getD 1000000, want) := by
 unfold guardsOf at hg
 rw [List.getElem?_map, Array.getElem?_toList, ho] at hg
 exact (Option.some.inj hg).symm
theorem AT_ok (hN : N < 1000000) : ∀ (s : Sch) (r : SchO) (st : St) (a : Act) (w : World), SchO.fits ops (guardsOf ops) r s → AT P N (Q .normal) r st → Rel e k0 N st a w → wpP P ops (APost e k0 N Q) (keepsF ops) s a w
 | .nil, r, st, a, w, hf, h, hr => by
  cases r <;> simp only [SchO.fits] at hf
  exact ⟨fun c => by simp, st, h, hr⟩
 | .cons i true s, r, st, a, w, hf, h, hr => by
  cases r <;> simp only [SchO.fits] at hf
  rename_i o g r
  obtain ⟨ho, hgi, hf⟩ := hf
  have hgo := guardsOf_get ho hgi
  simp only [AT] at h
  obtain ⟨σ, h1, h2, h3⟩ := hr.ex
  split at h <;> try (exact h.elim; done)
  ·rename_i hg
   split at h <;> try (exact h.elim; done)
   rename_i d p x hdst hs
   obtain ⟨hd, hp, hS⟩ := h
   obtain ⟨v, k1, k2⟩ := stillB_ok h1 h2 hs hp
   refine ⟨o, v, ho, .inl ⟨gd_ok hr hN hgo hg, k1⟩, AT_ok hN s r _ _ _ hf hS ?_⟩
   rw [hdst]
   exact hr.put h1 h2 h3 (Ext.refl _) k2 d hd
  rename_i hg
  exact ⟨o, undef, ho, .inr ⟨gd_ok hr hN hgo hg, rfl⟩, AT_ok hN s r _ _ _ hf h (hr.dead o.dst)⟩
 | .cons i false s, r, st, a, w, hf, h, hr => by
  cases r <;> simp only [SchO.fits] at hf
  rename_i o g r
  obtain ⟨ho, hgi, hf⟩ := hf
  have hgo := guardsOf_get ho hgi
  simp only [AT] at h
  show wpOp P ops _ i _ a w
  unfold wpOp
  simp only [ho]
  split at h <;> try (exact h.elim; done)
  ·rename_i hg
   rw [if_pos (gd_ok hr hN hgo hg)]
   exact .inl (stepA_ok hr h fun st' a' w' hS hr' hF => ⟨fun hk => hF rfl (by simpa [keepsF, ho] using hk), AT_ok hN s r _ _ _ hf hS hr'⟩)
  rename_i hg
  rw [if_neg (by rw [gd_ok hr hN hgo hg]; simp)]
  exact ⟨fun _ => FL.refl w, AT_ok hN s r _ _ _ hf h (hr.dead o.dst)⟩
 | .two i j s s', r, st, a, w, hf, h, hr => by
  cases r <;> simp only [SchO.fits] at hf
  rename_i oi oj r r'
  obtain ⟨hi, hgi, hj, hgj, hf1, hf2⟩ := hf
  have g1 : Region.wanted oi (yielded ops a.tmps) = true := gd_ok hr hN (guardsOf_get hi hgi) rfl
  have g2 : Region.wanted oj (yielded ops a.tmps) = true := gd_ok hr hN (guardsOf_get hj hgj) rfl
  simp only [AT] at h
  obtain ⟨s1, s2⟩ := h
  refine ⟨?_, ?_⟩
  ·show wpOp P ops _ i _ a w
   unfold wpOp
   simp only [hi]
   rw [if_pos g1]
   exact .inl (stepA_ok hr s1 fun st' a' w' hS hr' hF => ⟨fun hk => hF rfl (by simpa [keepsF, hi] using hk), AT_ok hN s r _ _ _ hf1 hS hr'⟩)
  show wpOp P ops _ j _ a w
  unfold wpOp
  simp only [hj]
  rw [if_pos g2]
  exact .inl (stepA_ok hr s2 fun st' a' w' hS hr' hF => ⟨fun hk => hF rfl (by simpa [keepsF, hj] using hk), AT_ok hN s' r' _ _ _ hf2 hS hr'⟩)
theorem awp_region (I : List Nat) {id : Nat} {l : List Oper} {gs : List (Option (Nat × Bool))} (hl : ops.toList = l) (hg : guardsOf ops = gs) (hN : decide (N < 1000000) = true) (h : AL P N I (Q .normal) l gs st) : Awp P e k0 N (.region id ops false) Q st := fun a w hr => by
 subst hl
 exact wp_region_list (AL_ok (of_decide_eq_true hN) _ gs _ _ _ hg.symm h hr)
theorem awp_draws {id : Nat} (hm : P.follows .mixedOrders = true) (s : Sch) (hB : (Region.noSelect ops && decide (s.len = ops.size) && schedP .any ops (keepsF ops) s (Array.replicate ops.size false)) = true)
  {gs : List (Option (Nat × Bool))} (hg : guardsOf ops = gs) {r : SchO} (hr : SchO.mk ops gs s = some r) (hN : decide (N < 1000000) = true) (h : AT P N (Q .normal) r st) : Awp P e k0 N (.region id ops true) Q st := fun a w hr' => by
 subst hg
 exact wp_region_pure hm s (keepsF ops) hB (fun c a d v w hq => (hq.1 c rfl).elim) (AT_ok (of_decide_eq_true hN) s r st a _ (SchO.mk_fits hr) h hr'.drew)
def Athen (R : St → Prop) (Q : Exit → St → Prop) : Exit → St → Prop
 | .normal, st => R st
 | ex, st => Q ex st
def Ablock (id : Nat) (Q : Exit → St → Prop) : Exit → St → Prop
 | .exit i, st => if i = id then Q .normal st else Q (.exit i) st
 | ex, st => Q ex st
theorem awp_seq {x y : Code} (h : Awp P e k0 N x (Athen (Awp P e k0 N y Q) Q) st) : Awp P e k0 N (.seq x y) Q st := fun a w hr => by
 refine wp_seq (wp_mono (h a w hr) fun ex a' w' ⟨hp, st', hq, hr'⟩ => ?_)
 cases ex with
 | normal => exact hq a' w' hr'
 | panic c => exact (hp c rfl).elim
 | _ => exact ⟨hp, st', hq, hr'⟩
theorem awp_cond {c : Operand} {x y : Code} (t : Bool) (hc : ev st c = .val (.one (.lit (.bool t)))) (h1 : t = true → Awp P e k0 N x Q st) (h2 : t = false → Awp P e k0 N y Q st) : Awp P e k0 N (.cond c x y) Q st := fun a w hr => by
 obtain ⟨σ, k1, k2, k3⟩ := hr.ex
 have h3 := ev_den k2 c
 rw [hc] at h3
 simp only [denA, den1, den] at h3
 exact wp_cond_split h3.1 (fun ht => h1 ht a w hr) fun ht => h2 ht a w hr
theorem awp_skip (h : Q .normal st) : Awp P e k0 N .skip Q st := fun a w hr => wp_skip ⟨fun c => by simp, st, h, hr⟩
theorem awp_exit {id : Nat} (h : Q (.exit id) st) : Awp P e k0 N (.exit id) Q st := fun a w hr => wp_exit ⟨fun c => by simp, st, h, hr⟩
theorem awp_ret (h : Q .ret st) : Awp P e k0 N .ret Q st := fun a w hr => wp_ret ⟨fun c => by simp, st, h, hr⟩
theorem awp_block {id : Nat} {c : Code} (h : Awp P e k0 N c (Ablock id Q) st) : Awp P e k0 N (.block id c) Q st := fun a w hr => by
 refine wp_block (wp_mono (h a w hr) fun ex a' w' ⟨hp, st', hq, hr'⟩ => ?_)
 cases ex with
 | exit i =>
  simp only [Ablock] at hq
  simp only [Exit.inBlock]
  split
  ·rename_i hi; rw [if_pos hi] at hq; exact ⟨fun c => by simp, st', hq, hr'⟩
  rename_i hi; rw [if_neg hi] at hq; exact ⟨fun c => by simp, st', hq, hr'⟩
 | panic c => exact (hp c rfl).elim
 | _ => exact ⟨hp, st', hq, hr'⟩
theorem least (p : Nat → Prop) : ∀ n, p n → ∃ m, p m ∧ ∀ k, p k → m ≤ k := fun n => by
 induction n using Nat.strongRecOn with
 | _ n ih =>
  intro h
  by_cases hk : ∃ k, k < n ∧ p k
  ·obtain ⟨k, h1, h2⟩ := hk; exact ih k h1 h2
  exact ⟨n, h, fun k hk' => Nat.le_of_not_lt fun hlt => hk ⟨k, hlt, hk'⟩⟩
open Classical in
theorem awp_loop {c : Code} (I : Nat → St → Prop) (n0 : Nat) (h0 : I n0 st) (round : ∀ n st, I n st → Awp P e k0 N c (Athen (fun st' => ∃ m, m < n ∧ I m st') Q) st) : Awp P e k0 N (.loop c) Q st := fun a w hr => by
 let p : Act → World → Nat → Prop := fun a w n => ∃ st, I n st ∧ Rel e k0 N st a w
 let μ : Act → World → Nat := fun a w => if h : ∃ n, p a w n then Classical.choose (least (p a w) h.choose h.choose_spec) else 0
 have hμ : ∀ a w n, p a w n → p a w (μ a w) ∧ μ a w ≤ n := fun a w n hn => by
  have hex : ∃ n, p a w n := ⟨n, hn⟩
  have := Classical.choose_spec (least (p a w) hex.choose hex.choose_spec)
  simp only [μ, dif_pos hex]
  exact ⟨this.1, this.2 n hn⟩
 refine wp_loop (fun a w => ∃ n, p a w n) μ ⟨n0, st, h0, hr⟩ fun a w ⟨n, hn⟩ => ?_
 obtain ⟨⟨st1, hI, hr1⟩, _⟩ := hμ a w n hn
 refine wp_mono (round _ st1 hI a w hr1) fun ex a' w' ⟨hp, st', hq, hr'⟩ => ?_
 cases ex with
 | normal =>
  obtain ⟨m, hm, hIm⟩ := hq
  exact ⟨⟨m, st', hIm, hr'⟩, Nat.lt_of_le_of_lt (hμ a' w' m ⟨st', hIm, hr'⟩).2 hm⟩
 | panic c => exact (hp c rfl).elim
 | _ => exact ⟨hp, st', hq, hr'⟩
theorem awp_pre {c : Code} (st2 : St) (h : ∀ a w, Rel e k0 N st a w → Rel e k0 N st2 a w) (h2 : Awp P e k0 N c Q st2) : Awp P e k0 N c Q st := fun a w hr => h2 a w (h a w hr)
theorem awp_mono {c : Code} {Q' : Exit → St → Prop} (h : Awp P e k0 N c Q st) (hq : ∀ ex st, Q ex st → Q' ex st) : Awp P e k0 N c Q' st := fun a w hr => wp_mono (h a w hr) fun ex a' w' ⟨hp, st', k, hr'⟩ => ⟨hp, st', hq _ _ k, hr'⟩
end
def resL (P : Program) (st : St) : List ResultVar → Option (Prop × List A1)
 | [] => some (True, [])
 | r :: l => match resV P st r, resL P st l with
  | some (p, a), some (q, as) => match snap1 st a with
   | some (p', b, _) => some (p ∧ p' ∧ q, b :: as)
   | none => none
  | _, _ => none
def Ares (P : Program) (R : List ResultVar) (res : AV) (st : St) : Prop :=
 match resL P st R with
 | some (p, l) => p ∧ tupA l = res
 | none => False
def Aret (P : Program) (R : List ResultVar) (res : AV) : Exit → St → Prop
 | .normal, st => Ares P R res st
 | .ret, st => Ares P R res st
 | _, _ => False
def ini (args : List A1) : St := ⟨iniT 0 args, fun _ => none, 0, 0⟩
section
variable {P : Program} {e : En} {k0 : Kx} {N : Nat} {st st' : St} {a : Act} {w : World} {σ : Nat → Value}
def kOut (e : En) (w : World) : Kx := ⟨e.w0.heap.size, e.T, w, fun _ => .slice none 0 0, fun _ => none, 0⟩
theorem kOut_S {b : Nat} {H : Hp} {nx : Nat} {σ : Nat → Value} (h : (kx e H nx σ w).S b) : (kOut e w).S b ∧ (kOut e w).w.heap[b]? = (kx e H nx σ w).w.heap[b]? := ⟨⟨h.1, h.2.1, fun _ _ h => by cases h⟩, rfl⟩
theorem snapC_out (hW : RW e st.H st.nx σ w) {c d : C} {b : Bool} {p : Prop} {v : Value} (hd : den (kx e st.H st.nx σ w) v c) (h : snapC st c = some (p, d, b)) (hp : p) : den (kOut e w) v d := by
 cases c with
 | own nm s n sz =>
  simp only [snapC] at h
  split at h <;> try (cases h; done)
  rename_i hsz
  split at h <;> try (cases h; done)
  rename_i B hB
  simp only [Option.some.injEq, Prod.mk.injEq] at h
  obtain ⟨rfl, rfl, rfl⟩ := h
  obtain ⟨hs, hpure⟩ := hp
  simp only [den] at hd
  obtain ⟨h1, h2, h3⟩ := hd.2.2 B hB hs
  subst h2; subst h3
  have h1' : v = σ nm := h1
  rw [h1']
  exact den_pure (fun b hb => kOut_S hb) (by simpa [pureC] using hpure) (hW.publish hB hsz)
 | lit x =>
  simp only [snapC, Option.some.injEq, Prod.mk.injEq] at h; obtain ⟨rfl, rfl, rfl⟩ := h
  exact den_pure (fun b hb => kOut_S hb) hp hd
 | sh sz n cs =>
  simp only [snapC, Option.some.injEq, Prod.mk.injEq] at h; obtain ⟨rfl, rfl, rfl⟩ := h
  exact den_pure (fun b hb => kOut_S hb) hp hd
 | sp cs =>
  simp only [snapC, Option.some.injEq, Prod.mk.injEq] at h; obtain ⟨rfl, rfl, rfl⟩ := h
  exact den_pure (fun b hb => kOut_S hb) hp hd
 | ptr nm s off => simp only [snapC] at h; cases h
 | dead => simp only [snapC] at h; cases h
theorem snapCs_out (hW : RW e st.H st.nx σ w) : ∀ {cs ds : List C} {b : Bool} {vs : List Value} {p : Prop}, denVs (kx e st.H st.nx σ w) vs cs → snapCs st cs = some (p, ds, b) → p → denVs (kOut e w) vs ds
 | [], ds, b, [], p, _, h, hp => by
  simp only [snapCs, Option.some.injEq, Prod.mk.injEq] at h
  obtain ⟨rfl, rfl, rfl⟩ := h
  trivial
 | [], _, _, _ :: _, _, hd, _, _ => hd.elim
 | _ :: _, _, _, [], _, hd, _, _ => hd.elim
 | c :: cs, ds, b, v :: vs, p, hd, h, hp => by
  simp only [snapCs] at h
  split at h <;> try (cases h; done)
  rename_i p1 d1 b1 p2 d2 b2 h1 h2
  simp only [Option.some.injEq, Prod.mk.injEq] at h
  obtain ⟨rfl, rfl, rfl⟩ := h
  exact ⟨snapC_out hW hd.1 h1 hp.1, snapCs_out hW hd.2 h2 hp.2⟩
theorem snap1_out (hW : RW e st.H st.nx σ w) {x y : A1} {b : Bool} {p : Prop} {v : Value} (hd : den1 (kx e st.H st.nx σ w) v x) (h : snap1 st x = some (p, y, b)) (hp : p) : den1 (kOut e w) v y := by
 cases x with
 | one c =>
  simp only [snap1] at h
  split at h <;> try (cases h; done)
  rename_i p1 d1 b1 h1
  simp only [Option.some.injEq, Prod.mk.injEq] at h
  obtain ⟨rfl, rfl, rfl⟩ := h
  exact snapC_out hW hd h1 hp
 | agg cs =>
  simp only [snap1] at h
  split at h <;> try (cases h; done)
  rename_i p1 d1 b1 h1
  simp only [Option.some.injEq, Prod.mk.injEq] at h
  obtain ⟨rfl, rfl, rfl⟩ := h
  obtain ⟨vs, g1, g2⟩ := hd
  exact ⟨vs, g1, snapCs_out hW g2 h1 hp⟩
theorem resL_ok (hW : RW e st.H st.nx σ w) (ht : ∀ t, denA (kx e st.H st.nx σ w) (a.tmps.getD t undef) (st.tm t)) : ∀ {l : List ResultVar} {p : Prop} {xs : List A1}, resL P st l = some (p, xs) → p →
  ∃ vs, (l.mapM (runR a.tmps)).run P w = .ok vs w ∧ den1s (kOut e w) vs xs
 | [], p, xs, h, _ => by
  simp only [resL, Option.some.injEq, Prod.mk.injEq] at h
  obtain ⟨rfl, rfl⟩ := h
  exact ⟨[], rfl, trivial⟩
 | r :: l, p, xs, h, hp => by
  simp only [resL] at h
  split at h <;> try (cases h; done)
  rename_i p1 a1 q as h1 h2
  split at h <;> try (cases h; done)
  rename_i p2 b b' h3
  simp only [Option.some.injEq, Prod.mk.injEq] at h
  obtain ⟨rfl, rfl⟩ := h
  obtain ⟨hp1, hp2, hq⟩ := hp
  obtain ⟨v, k1, k2⟩ := resV_ok hW ht h1 hp1
  obtain ⟨vs, k3, k4⟩ := resL_ok hW ht h2 hq
  refine ⟨v :: vs, ?_, snap1_out hW k2 h3 hp2, k4⟩
  rw [List.mapM_cons]
  simp only [Sem.run_bind, k1, k3, Result.andThen_ok, Sem.run_pure]
theorem results_ok {fn : Func} {res : AV} (hW : RW e st.H st.nx σ w) (ht : ∀ t, denA (kx e st.H st.nx σ w) (a.tmps.getD t undef) (st.tm t)) (h : Ares P fn.results.toList res st) :
  ∃ v, (results fn a.tmps).run P w = .ok v w ∧ denA (kOut e w) v res := by
 unfold Ares at h
 split at h <;> try (exact h.elim; done)
 rename_i p l hl
 obtain ⟨hp, rfl⟩ := h
 obtain ⟨vs, k1, k2⟩ := resL_ok hW ht hl hp
 exact tup_run k1 k2
theorem acall_of {f : FuncId} {fn : Func} {c : Code} {args : List A1} {res : AV} (hf : P.funcs[f]? = some fn) (hb : fn.body = some c) (hn : fn.name ≠ "runtime.NumGoroutine") {N : Nat} (hNt : fn.ntmps = N) (hN : args.length ≤ N) {R : List ResultVar} (hR : fn.results.toList = R)
  (h : ∀ e k0, Awp P e k0 N c (Aret P R res) (ini args)) : ACall P f args res := by
 subst hNt hR
 refine ⟨⟨fn, hf, hn, by rw [hb]; rfl⟩, fun w T vs hT hd => ?_⟩
 refine calls_of_wp hf hb ?_
 obtain ⟨t1, t2⟩ := enter_tmps (n := fn.ntmps) hd hN
 have hrel : Rel ⟨w, T⟩ (kIn w T w) fn.ntmps (ini args) { tmps := vs.toArray ++ Array.replicate (fn.ntmps - vs.toArray.size) undef, defers := [] } w :=
  ⟨⟨fun _ => .slice none 0 0, ⟨Below.refl _ _, hT, (fun _ _ h => by cases h), (fun _ _ _ _ h => by cases h)⟩, t1, Ext.refl _⟩, rfl, t2⟩
 refine wp_mono (h ⟨w, T⟩ (kIn w T w) _ w hrel) fun ex a' w' ⟨hp, st', hq, hr'⟩ => ?_
 obtain ⟨σ, h1, h2, _⟩ := hr'.ex
 cases ex with
 | normal =>
  obtain ⟨v, k1, k2⟩ := results_ok h1 h2 hq
  exact ⟨hr'.df, v, k1, v, rfl, h1.bel, k2⟩
 | ret =>
  obtain ⟨v, k1, k2⟩ := results_ok h1 h2 hq
  exact ⟨hr'.df, v, k1, v, rfl, h1.bel, k2⟩
 | panic c => exact (hp c rfl).elim
 | exit i => exact hq.elim
 | goto l => exact hq.elim
 | outgrown => exact hq.elim
theorem Athen_normal {R : St → Prop} {Q : Exit → St → Prop} {st : St} : Athen R Q .normal st = R st := rfl
theorem Athen_exit {R : St → Prop} {Q : Exit → St → Prop} {st : St} {i : Nat} : Athen R Q (.exit i) st = Q (.exit i) st := rfl
theorem Athen_ret {R : St → Prop} {Q : Exit → St → Prop} {st : St} : Athen R Q .ret st = Q .ret st := rfl
theorem Ablock_normal {i : Nat} {Q : Exit → St → Prop} {st : St} : Ablock i Q .normal st = Q .normal st := rfl
theorem Ablock_ret {i : Nat} {Q : Exit → St → Prop} {st : St} : Ablock i Q .ret st = Q .ret st := rfl
theorem Ablock_exit {i j : Nat} {Q : Exit → St → Prop} {st : St} : Ablock i Q (.exit j) st = if j = i then Q .normal st else Q (.exit j) st := rfl
theorem Aret_normal {P : Program} {R : List ResultVar} {res : AV} {st : St} : Aret P R res .normal st = Ares P R res st := rfl
theorem ArI_normal {P : Program} {Rl : List ResultVar} {R : AV → Hp → Nat → Prop} {st : St} : ArI P Rl R .normal st = ArI0 P Rl R st := rfl
theorem ArI_ret {P : Program} {Rl : List ResultVar} {R : AV → Hp → Nat → Prop} {st : St} : ArI P Rl R .ret st = ArI0 P Rl R st := rfl
theorem Aret_ret {P : Program} {R : List ResultVar} {res : AV} {st : St} : Aret P R res .ret st = Ares P R res st := rfl
def ALg (P : Program) (N : Nat) (I : List Nat) (Q : St → Prop) (g : Option Bool) (o : Oper) (os : List Oper) (gs : List (Option (Nat × Bool))) (st : St) : Prop :=
 match g with
 | some true => stepA P N I st o (AL P N I Q os gs)
 | some false => AL P N I Q os gs (putO st o.dst (.tup []))
 | none => False
def ATt (P : Program) (N : Nat) (Q : St → Prop) (g : Option Bool) (o : Oper) (r : SchO) (st : St) : Prop :=
 match g with
 | some true => match o.dst with
  | some d => fin1 (stillB P st o.op) d N (AT P N Q r) st
  | none => False
 | some false => AT P N Q r (putO st o.dst (.tup []))
 | none => False
def ATe (P : Program) (N : Nat) (Q : St → Prop) (g : Option Bool) (o : Oper) (r : SchO) (st : St) : Prop :=
 match g with
 | some true => stepA P N [] st o (AT P N Q r)
 | some false => AT P N Q r (putO st o.dst (.tup []))
 | none => False
section
variable {P : Program} {N : Nat} {I : List Nat} {Q : St → Prop} {st : St} {o oi oj : Oper} {os : List Oper} {g : Option (Nat × Bool)} {gs : List (Option (Nat × Bool))} {r s : SchO}
theorem AL_nil : AL P N I Q [] gs st = Q st := by cases gs <;> rfl
theorem AL_cons : AL P N I Q (o :: os) (g :: gs) st = ALg P N I Q (gd g st) o os gs st := rfl
theorem ALg_t : ALg P N I Q (some true) o os gs st = stepA P N I st o (AL P N I Q os gs) := rfl
theorem ALg_f : ALg P N I Q (some false) o os gs st = AL P N I Q os gs (putO st o.dst (.tup [])) := rfl
theorem AT_nil : AT P N Q .nil st = Q st := rfl
theorem AT_take : AT P N Q (.take o g r) st = ATt P N Q (gd g st) o r st := by
 simp only [AT, ATt]
 cases gd g st with
 | none => rfl
 | some b =>
  cases b with
  | false => rfl
  | true =>
   cases o.dst with
   | none => rfl
   | some d =>
    simp only [fin1]
    cases stillB P st o.op with
    | none => rfl
    | some q => rfl
theorem AT_eff : AT P N Q (.eff o g r) st = ATe P N Q (gd g st) o r st := rfl
theorem ATt_t {d : Nat} {op : Op} {t : TypeId} {ps : String} {af : Array Edge} {gg : Option (Nat × Bool)} : ATt P N Q (some true) ⟨some d, op, t, ps, af, gg⟩ r st = fin1 (stillB P st op) d N (AT P N Q r) st := rfl
theorem ATt_f : ATt P N Q (some false) o r st = AT P N Q r (putO st o.dst (.tup [])) := rfl
theorem ATe_t : ATe P N Q (some true) o r st = stepA P N [] st o (AT P N Q r) := rfl
theorem ATe_f : ATe P N Q (some false) o r st = AT P N Q r (putO st o.dst (.tup [])) := rfl
theorem AT_two : AT P N Q (.two oi oj r s) st = (stepA P N [] st oi (AT P N Q r) ∧ stepA P N [] st oj (AT P N Q s)) := rfl
theorem fin1_some {p : Prop} {x : AV} {d : Nat} {K : St → Prop} : fin1 (some (p, x)) d N K st = (d < N ∧ p ∧ K ⟨up st.tm d x, st.H, st.nx, st.nb⟩) := rfl
theorem fin2_some {p : Prop} {st' : St} {d : Nat} {K : St → Prop} : fin2 (some (p, st')) d N K = (d < N ∧ p ∧ K st') := rfl
theorem finOr_some {x : Prop × St} {r : Option (Prop × St)} {d : Nat} {K : St → Prop} : finOr (some x) r d N K = fin2 (some x) d N K := rfl
theorem finOr_none {r : Option (Prop × St)} {d : Nat} {K : St → Prop} : finOr none r d N K = fin2 r d N K := rfl
theorem finSl_some {x : Prop × St} {r : Option (Prop × AV)} {d : Nat} {K : St → Prop} : finSl (some x) r d N K st = fin2 (some x) d N K := rfl
theorem finSl_none {r : Option (Prop × AV)} {d : Nat} {K : St → Prop} : finSl none r d N K st = fin1 r d N K st := rfl
theorem orS_some {x : Prop × AV} {r : Option (Prop × AV)} : orS (some x) r = some x := rfl
theorem orS_none {r : Option (Prop × AV)} : orS none r = r := rfl
theorem fin0_some {p : Prop} {st' : St} {K : St → Prop} : fin0 (some (p, st')) K = (p ∧ K st') := rfl
theorem finC_some {f : FuncId} {p : Prop} {ys : List A1} {b : Bool} {d : Nat} {K : St → Prop} : finC P f (some (p, ys, b)) d N K st = (d < N ∧ p ∧ ∃ res, ACall P f ys res ∧ allA (if b then flat1 else pure1) res = true ∧ Later K ⟨up st.tm d res, st.H, st.nx, st.nb⟩) := rfl
end
theorem finX_t {P : Program} {f : FuncId} {xs : List AV} {d N : Nat} {K : St → Prop} {st : St} : finX P f true xs d N K st = finI P f (raws xs) d N K st := rfl
theorem finX_f {P : Program} {f : FuncId} {xs : List AV} {d N : Nat} {K : St → Prop} {st : St} : finX P f false xs d N K st = finC P f (snaps st xs) d N K st := rfl
theorem finF_some {P : Program} {f : FuncId} {b : Bool} {xs : List AV} {d N : Nat} {K : St → Prop} {st : St} : finF P (some f) b xs d N K st = finX P f b xs d N K st := rfl
theorem finI_some {P : Program} {f : FuncId} {ys : List A1} {d N : Nat} {K : St → Prop} {st : St} : finI P f (some ys) d N K st = (d < N ∧ ∃ R, ACallI P f ys st.H st.nx R ∧ LaterI R d K st.tm st.nb) := rfl
theorem ite_tt {α : Type} (a b : α) : (if true = true then a else b) = a := rfl
theorem ite_ft {α : Type} (a b : α) : (if false = true then a else b) = b := rfl
theorem beq_ft : (false == true) = false := rfl
theorem beq_tf : (true == false) = false := rfl
theorem beq_ff : (false == false) = true := rfl
theorem beq_tt : (true == true) = true := rfl
theorem rel_keep (tm' : Nat → AV) (H' : Hp) (ht : ∀ t, tm' t = st.tm t ∨ tm' t = .dead) (hH : ∀ nm B, H' nm = some B → st.H nm = some B) (hr : Rel e k0 N st a w) : Rel e k0 N ⟨tm', H', st.nx, st.nb⟩ a w := by
 obtain ⟨σ, h1, h2, h3⟩ := hr.ex
 have hext : Ext (kx e st.H st.nx σ w) (kx e H' st.nx σ w) :=
  ⟨Nat.le_refl _, fun b hb => ⟨⟨hb.1, hb.2.1, fun nm B hB => hb.2.2 nm B (hH nm B hB)⟩, rfl⟩, fun nm B hB => .inr ⟨B, hH nm B hB, rfl, rfl, rfl, rfl⟩⟩
 refine ⟨⟨σ, ⟨h1.bel, h1.hT, fun nm B hB => ?_, fun nm nm' B B' hB hB' => h1.inj nm nm' B B' (hH nm B hB) (hH nm' B' hB')⟩, fun t => ?_, h3.trans hext⟩, hr.df, hr.sz⟩
 ·exact ⟨(h1.blk nm B (hH nm B hB)).1, (h1.blk nm B (hH nm B hB)).2.kept (row := none) ⟨rfl, rfl, rfl, Nat.le_refl _, fun _ _ _ => rfl⟩ (Classical.em _) rfl rfl hext⟩
 rcases ht t with h | h
 ·show denA _ _ (tm' t); rw [h]; exact denA_ext hext (h2 t)
 show denA _ _ (tm' t); rw [h]; trivial
theorem rel_publish {t nm s n sz : Nat} {B : Blk} (hB : st.H nm = some B) (hsz : sz ≠ 0) (hs : B.st = s) (htm : st.tm t = .val (.one (.own nm s n sz))) (hr : Rel e k0 N st a w) :
  Rel e k0 N ⟨up st.tm t (.val (.one (.sh sz n B.cs))), up st.H nm none, st.nx, st.nb⟩ a w := by
 obtain ⟨σ, h1, h2, h3⟩ := hr.ex
 obtain ⟨k1, k2⟩ := h1.drop nm
 refine ⟨⟨σ, k1, fun t' => ?_, h3.trans k2⟩, hr.df, hr.sz⟩
 show denA _ _ (up st.tm t _ t')
 by_cases htt : t' = t
 ·subst htt
  rw [up_same]
  have h4 := h2 t'
  rw [htm] at h4
  simp only [denA, den1, den] at h4
  obtain ⟨g1, g2, g3⟩ := h4.2.2 B hB hs
  have g1' : a.tmps.getD t' undef = σ nm := g1
  show den (kx e (up st.H nm none) st.nx σ w) _ _
  rw [g1', ← g2, ← g3]
  exact h1.publish hB (by rw [g3]; exact hsz)
 rw [up_ne _ _ htt]; exact denA_ext k2 (h2 t')
theorem rel_nil {t d : Nat} (E : TypeId) (sz : Nat) (hsz : sz ≠ 0) (htm : st.tm t = .val (.one (.lit (.slice none 0 0)))) (hr : Rel e k0 N st a w) :
  Rel e k0 N ⟨up st.tm t (.val (.one (.own d st.nx 0 sz))), up st.H d (some ⟨st.nx, E, sz, 0, []⟩), st.nx + 1, st.nb⟩ a w := by
 obtain ⟨σ, h1, h2, h3⟩ := hr.ex
 obtain ⟨k1, k2⟩ := RW.new (nm0 := d) (d := d) (row := none) h1 (w' := w) ⟨rfl, rfl, rfl, Nat.le_refl _, fun _ _ _ => rfl⟩ (B' := ⟨st.nx, E, sz, 0, []⟩) (v' := .slice none 0 0) (xs := []) rfl hsz (by simp) (by simp) (by simp [obk]) (w.ownsRow_nil _ _ _) trivial
 rw [up_up] at k1 k2
 refine ⟨⟨_, k1, fun t' => ?_, h3.trans k2⟩, hr.df, hr.sz⟩
 show denA _ _ (up st.tm t _ t')
 by_cases htt : t' = t
 ·subst htt
  rw [up_same]
  have h4 := h2 t'
  rw [htm] at h4
  simp only [denA, den1, den] at h4
  rw [h4.1]
  exact den_new_own d σ w rfl
 rw [up_ne _ _ htt]; exact denA_ext k2 (h2 t')
theorem rel_nil_cell {nm off d : Nat} {B : Blk} (E : TypeId) (sz : Nat) (hsz' : sz ≠ 0) (hB : st.H nm = some B) (hne : nm ≠ d) (hsz : B.sz ≠ 0) (hc : B.cs[off]? = some (.lit (.slice none 0 0))) (hr : Rel e k0 N st a w) :
  Rel e k0 N ⟨st.tm, up (up st.H d (some ⟨st.nx, E, sz, 0, []⟩)) nm (some { B with cs := B.cs.set off (.own d st.nx 0 sz) }), st.nx + 1, st.nb⟩ a w := by
 obtain ⟨σ, h1, h2, h3⟩ := hr.ex
 obtain ⟨k1, k2⟩ := RW.new (nm0 := d) (d := d) (row := none) h1 (w' := w) ⟨rfl, rfl, rfl, Nat.le_refl _, fun _ _ _ => rfl⟩ (B' := ⟨st.nx, E, sz, 0, []⟩) (v' := .slice none 0 0) (xs := []) rfl hsz' (by simp) (by simp) (by simp [obk]) (w.ownsRow_nil _ _ _) trivial
 rw [up_up] at k1 k2
 have hB' : up st.H d (some ⟨st.nx, E, sz, 0, []⟩) nm = some B := by rw [up_ne _ _ hne]; exact hB
 obtain ⟨g1, g2, xs, g3, g4⟩ := k1.rowOf hB' (.inl hsz)
 obtain ⟨u, q1, q2⟩ := g4.get off hc
 simp only [den] at q2
 have hlt : off < xs.length := (List.getElem?_eq_some_iff.1 q1).1
 have hxu : xs[off] = .slice none 0 0 := by
  have := (List.getElem?_eq_some_iff.1 q1).2
  rw [this]; exact q2.1
 have hset : xs.set off (.slice none 0 0) = xs := by rw [← hxu]; exact List.set_getElem_self hlt
 have hown := den_new_own (e := e) (H := st.H) (nx := st.nx) (E := E) (sz := sz) (n := 0) (cs := []) d (v := .slice none 0 0) σ w rfl
 have hd := g4.set off (v := .slice none 0 0) (c := .own d st.nx 0 sz) hown
 rw [hset] at hd
 obtain ⟨m1, m2⟩ := k1.upd (w' := w) hB' ⟨rfl, rfl, rfl, Nat.le_refl _, fun _ _ _ => rfl⟩ (cs := B.cs.set off (.own d st.nx 0 sz)) hsz (by simpa using g2) g3 hd
 exact ⟨⟨_, m1, fun t' => denA_ext (k2.trans m2) (h2 t'), h3.trans (k2.trans m2)⟩, hr.df, hr.sz⟩
end
end Go.Proofs.YtokmkopihhnggaaGreatDoor
