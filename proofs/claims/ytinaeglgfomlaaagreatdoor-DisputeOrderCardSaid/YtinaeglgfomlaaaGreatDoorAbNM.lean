/- The abstract machine: a slice that is read held against nil (both answers are followed); a row under another name. No program in sight. -/
import Derived.Test.YtinaeglgfomlaaaGreatDoorAbGM
import Derived.Laws.Cover3
set_option linter.unusedVariables false
set_option linter.unusedSimpArgs false
set_option linter.defProp false
set_option linter.unnecessarySimpa false
set_option linter.unusedSectionVars false
/- The abstract machine: a slice that is read held against nil (both answers are followed); a row under another name. No program in sight. -/
namespace Go.Proofs.YtinaeglgfomlaaaGreatDoor
open Go Go.RowKit
section
variable {P : Program} {e : En} {k0 : Kx} {N : Nat} {st : St} {a : Act} {w : World} {Q : Exit → St → Prop} {c : Code}
theorem rel_ren_cell {nm nm' nm2 off s n sz : Nat} {B B2 : Blk} (hB : st.H nm = some B) (hB2 : st.H nm2 = some B2) (hne : nm2 ≠ nm) (hne' : nm2 ≠ nm') (hsz : B.sz ≠ 0) (hsz2 : B2.sz ≠ 0) (hs : B.st = s) (hc : B2.cs[off]? = some (.own nm s n sz)) (hr : Rel e k0 N st a w) :
    Rel e k0 N ⟨st.tm, up (up (up st.H nm none) nm' (some ⟨st.nx, B.E, B.sz, B.n, B.cs⟩)) nm2 (some { B2 with cs := B2.cs.set off (.own nm' st.nx n sz) }), st.nx + 1, st.nb⟩ a w := by
  obtain ⟨σ, h1, h2, h3⟩ := hr.ex
  obtain ⟨b1, b2, ys, b3, b4⟩ := h1.rowOf hB (.inl hsz)
  obtain ⟨k1, k2⟩ := RW.new (nm0 := nm) (d := nm') (row := none) h1 (w' := w) ⟨rfl, rfl, rfl, Nat.le_refl _, fun _ _ _ => rfl⟩ (B' := ⟨st.nx, B.E, B.sz, B.n, B.cs⟩) (v' := σ nm) (xs := ys) rfl hsz b2 (by simp) (fun r hr => .inr ⟨hr, B, hB⟩) b3 b4
  have hB' : up (up st.H nm none) nm' (some ⟨st.nx, B.E, B.sz, B.n, B.cs⟩) nm2 = some B2 := by rw [up_ne _ _ hne', up_ne _ _ hne]; exact hB2
  obtain ⟨g1, g2, xs, g3, g4⟩ := h1.rowOf hB2 (.inl hsz2)
  obtain ⟨u, q1, q2⟩ := g4.get off hc
  simp only [den] at q2
  obtain ⟨r1, r2, r3⟩ := q2.2.2 B hB hs
  have hlt : off < xs.length := (List.getElem?_eq_some_iff.1 q1).1
  have hxu : xs[off] = σ nm := by
    have := (List.getElem?_eq_some_iff.1 q1).2
    rw [this]; exact r1
  have hset : xs.set off (σ nm) = xs := by rw [← hxu]; exact List.set_getElem_self hlt
  have hone : (σ nm).oneCell' = true := by have h := q2.1; rw [r1] at h; exact h
  have hown := den_new_own (e := e) (H := up st.H nm none) (nx := st.nx) (E := B.E) (sz := B.sz) (n := B.n) (cs := B.cs) nm' (v := σ nm) σ w hone
  rw [r2, r3] at hown
  have hd := (denVs_ext k2 g4).set off (v := σ nm) (c := .own nm' st.nx n sz) (by have h := hown; rw [← r2, ← r3] at h ⊢; exact h)
  rw [hset] at hd
  obtain ⟨m1, m2⟩ := k1.upd (w' := w) hB' ⟨rfl, rfl, rfl, Nat.le_refl _, fun _ _ _ => rfl⟩ (cs := B2.cs.set off (.own nm' st.nx n sz)) hsz2 (by simpa using g2) (by rw [up_ne _ _ hne']; exact g3) hd
  exact ⟨⟨_, m1, fun t' => denA_ext (k2.trans m2) (h2 t'), h3.trans (k2.trans m2)⟩, hr.df, hr.sz⟩
theorem awp_ren (nm nm' nm2 off : Nat) {s n sz : Nat} {B B2 : Blk} (hB : st.H nm = some B) (hB2 : st.H nm2 = some B2) (hc : B2.cs[off]? = some (.own nm s n sz)) (hne : nm2 ≠ nm) (hne' : nm2 ≠ nm') (hsz : B.sz ≠ 0) (hsz2 : B2.sz ≠ 0) (hs : B.st = s)
    (h : Awp P e k0 N c Q ⟨st.tm, up (up (up st.H nm none) nm' (some ⟨st.nx, B.E, B.sz, B.n, B.cs⟩)) nm2 (some { B2 with cs := B2.cs.set off (.own nm' st.nx n sz) }), st.nx + 1, st.nb⟩) : Awp P e k0 N c Q st := awp_wk (fun _ _ hr => rel_ren_cell hB hB2 hne hne' hsz hsz2 hs hc hr) h
end
def nilT : Op → Option (TypeId × Operand)
  | .binOp .eql t x (.const (.slice none 0 0)) _ => some (t, x)
  | _ => none
def stepN (P : Program) (N : Nat) (I : List Nat) (st : St) (o : Oper) (K : St → Prop) : Prop := match nilT o.op, o.dst with
  | some (t, x), some d => match ev st x with
    | .val (.one (.sh _ n _)) => d < N ∧ (elT P t).isSome = true ∧ ∀ b : Bool, (b = true → n = 0) → K ⟨up st.tm d (.val (.one (.lit (.bool b)))), st.H, st.nx, st.nb⟩
    | _ => False
  | _, _ => stepC P N I st o K
section
variable {P : Program} {e : En} {k0 : Kx} {N : Nat} {I : List Nat} {st st' : St} {a : Act} {w : World} {o : Oper} {p : Prop} {d : Nat} {K : Act → World → Prop} {Q : Exit → Act → World → Prop}
theorem stepN_ok {S : St → Prop} (hr : Rel e k0 N st a w) (h : stepN P N I st o S) (hK : ∀ st' a' w', S st' → Rel e k0 N st' a' w' → K a' w') : o.wp P a w K Q := by
  unfold stepN at h
  split at h
  · rename_i t x d hb hdst
    split at h <;> try (exact h.elim; done)
    rename_i sz n cs hx
    obtain ⟨hd, hel, hS⟩ := h
    obtain ⟨σ, h1, h2, h3⟩ := hr.ex
    have hv := ev_den h2 x
    rw [hx] at hv
    simp only [denA, den1, den] at hv
    obtain ⟨aa, cap, hv1, hv2, hv3, hv4, _⟩ := hv
    obtain ⟨⟨E, sz', by_⟩, hel'⟩ := Option.isSome_iff_exists.1 hel
    have hu := (elT_run hel').1
    have hop : ∃ ps, o.op = .binOp .eql t x (.const (.slice none 0 0)) ps := by
      unfold nilT at hb
      split at hb
      · rename_i t' x' ps hop
        simp only [Option.some.injEq, Prod.mk.injEq] at hb
        obtain ⟨rfl, rfl⟩ := hb
        exact ⟨ps, hop⟩
      cases hb
    obtain ⟨ps, hop⟩ := hop
    have hone : (Value.bool aa.isNone).oneCell' = true := rfl
    refine wp_value (v := .bool aa.isNone) (w' := w) ?_ ?_
    · have he := run_equal_slice_nil (P := P) w t E aa n cap hu
      simp only [execOp, hop]
      have e1 : a.eval (.const (.slice none 0 0)) = .slice none 0 0 := rfl
      rw [hv1, e1, eqGuard_at_slice]
      simp [binOp, he]
    rw [hdst]
    refine hK _ _ _ (hS aa.isNone fun hn => ?_) (hr.put h1 h2 h3 (Ext.refl _) (by exact ⟨rfl, hone⟩) d hd)
    have : aa = none := by simpa using hn
    have := hv4 this
    omega
  exact stepC_ok hr h hK
end
def AL5 (P : Program) (N : Nat) (I : List Nat) (Q : St → Prop) : List Oper → List (Option (Nat × Bool)) → St → Prop
  | o :: os, g :: gs, st => match gd g st with
    | some true => stepN P N I st o (AL5 P N I Q os gs)
    | some false => AL5 P N I Q os gs (putO st o.dst (.tup []))
    | none => False
  | [], _, st => Q st
  | _, _, _ => False
def AL5g (P : Program) (N : Nat) (I : List Nat) (Q : St → Prop) (g : Option Bool) (o : Oper) (os : List Oper) (gs : List (Option (Nat × Bool))) (st : St) : Prop :=
  match g with
  | some true => stepN P N I st o (AL5 P N I Q os gs)
  | some false => AL5 P N I Q os gs (putO st o.dst (.tup []))
  | none => False
section
variable {P : Program} {e : En} {k0 : Kx} {N : Nat} {I : List Nat} {st : St} {Q : Exit → St → Prop} {ops : Array Oper}
theorem AL5_ok (hN : N < 1000000) : ∀ (l : List Oper) (gs : List (Option (Nat × Bool))) (st : St) (a : Act) (w : World), (gs = l.map fun o => match o.guard with
    | none => none
    | some (j, want) => some (((ops[j]?).bind (·.dst)).getD 1000000, want)) → AL5 P N I (Q .normal) l gs st → Rel e k0 N st a w → wpList P ops (APost e k0 N Q) l a w
  | [], _, st, a, w, _, h, hr => by
    simp only [AL5] at h
    exact ⟨fun c => by simp, st, h, hr⟩
  | o :: os, [], _, _, _, hg, _, _ => by simp at hg
  | o :: os, g :: gs, st, a, w, hgs, h, hr => by
    simp only [List.map_cons, List.cons.injEq] at hgs
    simp only [AL5] at h
    split at h <;> try (exact h.elim; done)
    · rename_i hg
      refine wpList_step fun K hK => ?_
      rw [if_pos (gd_ok hr hN hgs.1 hg)]
      exact stepN_ok hr h fun st' a' w' hS hr' => hK _ _ (AL5_ok hN os gs st' a' w' hgs.2 hS hr')
    rename_i hg
    refine wpList_step fun K hK => ?_
    rw [if_neg (by rw [gd_ok hr hN hgs.1 hg]; simp)]
    exact hK _ _ (AL5_ok hN os gs _ _ _ hgs.2 h (hr.dead o.dst))
theorem awp_regionN (I : List Nat) {id : Nat} {l : List Oper} {gs : List (Option (Nat × Bool))} (hl : ops.toList = l) (hg : guardsOf ops = gs) (hN : decide (N < 1000000) = true) (h : AL5 P N I (Q .normal) l gs st) : Awp P e k0 N (.region id ops false) Q st := fun a w hr => by
  subst hl
  exact wp_region_list (AL5_ok (of_decide_eq_true hN) _ gs _ _ _ hg.symm h hr)
end
section
variable {P : Program} {N : Nat} {I : List Nat} {Q : St → Prop} {st : St} {o : Oper} {os : List Oper} {g : Option (Nat × Bool)} {gs : List (Option (Nat × Bool))}
theorem AL5_nil : AL5 P N I Q [] gs st = Q st := by cases gs <;> rfl
theorem AL5_cons : AL5 P N I Q (o :: os) (g :: gs) st = AL5g P N I Q (gd g st) o os gs st := rfl
theorem AL5g_t : AL5g P N I Q (some true) o os gs st = stepN P N I st o (AL5 P N I Q os gs) := rfl
theorem AL5g_f : AL5g P N I Q (some false) o os gs st = AL5 P N I Q os gs (putO st o.dst (.tup [])) := rfl
end
def SF := And.intro @AL5_nil (And.intro @AL5_cons (And.intro @AL5g_t (And.intro @AL5g_f (And.intro @stepN.eq_def (And.intro @nilT.eq_def SE)))))
def orT (q : Nat) (E : TypeId) (ps : List (GEst × Nat)) (H : Hp) : Hp := fun x => match tbl q E ps x with
  | some B => some B
  | none => H x
theorem orT_nil (q : Nat) (E : TypeId) (H : Hp) : orT q E [] H = H := by
  funext x
  unfold orT tbl
  split <;> rename_i h
  · split at h
    · simp at h
    cases h
  rfl
theorem orT_some {q : Nat} {E : TypeId} {ps : List (GEst × Nat)} {H : Hp} {x : Nat} {B : Blk} (h : orT q E ps H x = some B) : (∃ i p, x = 1000 * (i + 1) + q ∧ ps[i]? = some p ∧ B = ⟨p.2, E, 5, p.1.claims.length, flat cClaim p.1.claims⟩) ∨ H x = some B := by
  unfold orT at h
  split at h
  · rename_i B' hB
    obtain rfl := Option.some.inj h
    exact .inl (tbl_some hB)
  exact .inr h
theorem orT_at {q : Nat} {E : TypeId} {ps : List (GEst × Nat)} {H : Hp} {i : Nat} {p : GEst × Nat} (hq : q < 1000) (h : ps[i]? = some p) : orT q E ps H (1000 * (i + 1) + q) = some ⟨p.2, E, 5, p.1.claims.length, flat cClaim p.1.claims⟩ := by
  unfold orT
  rw [tbl_at hq h]
theorem orT_low {q : Nat} {E : TypeId} {ps : List (GEst × Nat)} {H : Hp} {x : Nat} (h : x < 1000) : orT q E ps H x = H x := by
  unfold orT
  rw [tbl_low h]
end Go.Proofs.YtinaeglgfomlaaaGreatDoor
