/- The abstract machine: a function's contract out of its code; states made weaker. No program in sight. -/
import Derived.Test.YtokmkopihhnggaaAb8M
set_option linter.unusedVariables false
set_option linter.unusedSimpArgs false
set_option linter.defProp false
set_option linter.unnecessarySimpa false
set_option linter.unusedSectionVars false
/- The abstract machine: a function's contract out of its code; states made weaker. No program in sight. -/
namespace Go.Proofs.Ytokmkopihhnggaa
open Go Go.RowKit
def resL (P : Program) (st : St) : List ResultVar → Option (Prop × List A1)
  | [] => some (True, [])
  | r :: l => match resV P st r, resL P st l with
    | some (p, a), some (q, as) => match snap1 st a with
      | some (p', b, _) => some (p ∧ p' ∧ q, b :: as)
      | none => none
    | _, _ => none
def Ares (P : Program) (R : List ResultVar) (res : AV) (st : St) : Prop :=
  match resL P st R with
  | some (p, l) => p ∧ tupA l = res
  | none => False
def Aret (P : Program) (R : List ResultVar) (res : AV) : Exit → St → Prop
  | .normal, st => Ares P R res st
  | .ret, st => Ares P R res st
  | _, _ => False
def ini (args : List A1) : St := ⟨iniT 0 args, fun _ => none, 0, 0⟩
section
variable {P : Program} {e : En} {k0 : Kx} {N : Nat} {st st' : St} {a : Act} {w : World} {σ : Nat → Value}
def kOut (e : En) (w : World) : Kx := ⟨e.w0.heap.size, e.T, w, fun _ => .slice none 0 0, fun _ => none, 0⟩
theorem kOut_S {b : Nat} {H : Hp} {nx : Nat} {σ : Nat → Value} (h : (kx e H nx σ w).S b) : (kOut e w).S b ∧ (kOut e w).w.heap[b]? = (kx e H nx σ w).w.heap[b]? := ⟨⟨h.1, h.2.1, fun _ _ h => by cases h⟩, rfl⟩
theorem snapC_out (hW : RW e st.H st.nx σ w) {c d : C} {b : Bool} {p : Prop} {v : Value} (hd : den (kx e st.H st.nx σ w) v c) (h : snapC st c = some (p, d, b)) (hp : p) : den (kOut e w) v d := by
  cases c with
  | own nm s n sz =>
    simp only [snapC] at h
    split at h <;> try (cases h; done)
    rename_i hsz
    split at h <;> try (cases h; done)
    rename_i B hB
    simp only [Option.some.injEq, Prod.mk.injEq] at h
    obtain ⟨rfl, rfl, rfl⟩ := h
    obtain ⟨hs, hpure⟩ := hp
    simp only [den] at hd
    obtain ⟨h1, h2, h3⟩ := hd.2.2 B hB hs
    subst h2; subst h3
    have h1' : v = σ nm := h1
    rw [h1']
    exact den_pure (fun b hb => kOut_S hb) (by simpa [pureC] using hpure) (hW.publish hB hsz)
  | lit x =>
    simp only [snapC, Option.some.injEq, Prod.mk.injEq] at h; obtain ⟨rfl, rfl, rfl⟩ := h
    exact den_pure (fun b hb => kOut_S hb) hp hd
  | sh sz n cs =>
    simp only [snapC, Option.some.injEq, Prod.mk.injEq] at h; obtain ⟨rfl, rfl, rfl⟩ := h
    exact den_pure (fun b hb => kOut_S hb) hp hd
  | sp cs =>
    simp only [snapC, Option.some.injEq, Prod.mk.injEq] at h; obtain ⟨rfl, rfl, rfl⟩ := h
    exact den_pure (fun b hb => kOut_S hb) hp hd
  | ptr nm s off => simp only [snapC] at h; cases h
  | dead => simp only [snapC] at h; cases h
theorem snapCs_out (hW : RW e st.H st.nx σ w) : ∀ {cs ds : List C} {b : Bool} {vs : List Value} {p : Prop}, denVs (kx e st.H st.nx σ w) vs cs → snapCs st cs = some (p, ds, b) → p → denVs (kOut e w) vs ds
  | [], ds, b, [], p, _, h, hp => by
    simp only [snapCs, Option.some.injEq, Prod.mk.injEq] at h
    obtain ⟨rfl, rfl, rfl⟩ := h
    trivial
  | [], _, _, _ :: _, _, hd, _, _ => hd.elim
  | _ :: _, _, _, [], _, hd, _, _ => hd.elim
  | c :: cs, ds, b, v :: vs, p, hd, h, hp => by
    simp only [snapCs] at h
    split at h <;> try (cases h; done)
    rename_i p1 d1 b1 p2 d2 b2 h1 h2
    simp only [Option.some.injEq, Prod.mk.injEq] at h
    obtain ⟨rfl, rfl, rfl⟩ := h
    exact ⟨snapC_out hW hd.1 h1 hp.1, snapCs_out hW hd.2 h2 hp.2⟩
theorem snap1_out (hW : RW e st.H st.nx σ w) {x y : A1} {b : Bool} {p : Prop} {v : Value} (hd : den1 (kx e st.H st.nx σ w) v x) (h : snap1 st x = some (p, y, b)) (hp : p) : den1 (kOut e w) v y := by
  cases x with
  | one c =>
    simp only [snap1] at h
    split at h <;> try (cases h; done)
    rename_i p1 d1 b1 h1
    simp only [Option.some.injEq, Prod.mk.injEq] at h
    obtain ⟨rfl, rfl, rfl⟩ := h
    exact snapC_out hW hd h1 hp
  | agg cs =>
    simp only [snap1] at h
    split at h <;> try (cases h; done)
    rename_i p1 d1 b1 h1
    simp only [Option.some.injEq, Prod.mk.injEq] at h
    obtain ⟨rfl, rfl, rfl⟩ := h
    obtain ⟨vs, g1, g2⟩ := hd
    exact ⟨vs, g1, snapCs_out hW g2 h1 hp⟩
theorem resL_ok (hW : RW e st.H st.nx σ w) (ht : ∀ t, denA (kx e st.H st.nx σ w) (a.tmps.getD t undef) (st.tm t)) : ∀ {l : List ResultVar} {p : Prop} {xs : List A1}, resL P st l = some (p, xs) → p →
    ∃ vs, (l.mapM (runR a.tmps)).run P w = .ok vs w ∧ den1s (kOut e w) vs xs
  | [], p, xs, h, _ => by
    simp only [resL, Option.some.injEq, Prod.mk.injEq] at h
    obtain ⟨rfl, rfl⟩ := h
    exact ⟨[], rfl, trivial⟩
  | r :: l, p, xs, h, hp => by
    simp only [resL] at h
    split at h <;> try (cases h; done)
    rename_i p1 a1 q as h1 h2
    split at h <;> try (cases h; done)
    rename_i p2 b b' h3
    simp only [Option.some.injEq, Prod.mk.injEq] at h
    obtain ⟨rfl, rfl⟩ := h
    obtain ⟨hp1, hp2, hq⟩ := hp
    obtain ⟨v, k1, k2⟩ := resV_ok hW ht h1 hp1
    obtain ⟨vs, k3, k4⟩ := resL_ok hW ht h2 hq
    refine ⟨v :: vs, ?_, snap1_out hW k2 h3 hp2, k4⟩
    rw [List.mapM_cons]
    simp only [Sem.run_bind, k1, k3, Result.andThen_ok, Sem.run_pure]
theorem results_ok {fn : Func} {res : AV} (hW : RW e st.H st.nx σ w) (ht : ∀ t, denA (kx e st.H st.nx σ w) (a.tmps.getD t undef) (st.tm t)) (h : Ares P fn.results.toList res st) :
    ∃ v, (results fn a.tmps).run P w = .ok v w ∧ denA (kOut e w) v res := by
  unfold Ares at h
  split at h <;> try (exact h.elim; done)
  rename_i p l hl
  obtain ⟨hp, rfl⟩ := h
  obtain ⟨vs, k1, k2⟩ := resL_ok hW ht hl hp
  exact tup_run k1 k2
theorem acall_of {f : FuncId} {fn : Func} {c : Code} {args : List A1} {res : AV} (hf : P.funcs[f]? = some fn) (hb : fn.body = some c) (hn : fn.name ≠ "runtime.NumGoroutine") {N : Nat} (hNt : fn.ntmps = N) (hN : args.length ≤ N) {R : List ResultVar} (hR : fn.results.toList = R)
    (h : ∀ e k0, Awp P e k0 N c (Aret P R res) (ini args)) : ACall P f args res := by
  subst hNt hR
  refine ⟨⟨fn, hf, hn, by rw [hb]; rfl⟩, fun w T vs hT hd => ?_⟩
  refine calls_of_wp hf hb ?_
  obtain ⟨t1, t2⟩ := enter_tmps (n := fn.ntmps) hd hN
  have hrel : Rel ⟨w, T⟩ (kIn w T w) fn.ntmps (ini args) { tmps := vs.toArray ++ Array.replicate (fn.ntmps - vs.toArray.size) undef, defers := [] } w :=
    ⟨⟨fun _ => .slice none 0 0, ⟨Below.refl _ _, hT, (fun _ _ h => by cases h), (fun _ _ _ _ h => by cases h)⟩, t1, Ext.refl _⟩, rfl, t2⟩
  refine wp_mono (h ⟨w, T⟩ (kIn w T w) _ w hrel) fun ex a' w' ⟨hp, st', hq, hr'⟩ => ?_
  obtain ⟨σ, h1, h2, _⟩ := hr'.ex
  cases ex with
  | normal =>
    obtain ⟨v, k1, k2⟩ := results_ok h1 h2 hq
    exact ⟨hr'.df, v, k1, v, rfl, h1.bel, k2⟩
  | ret =>
    obtain ⟨v, k1, k2⟩ := results_ok h1 h2 hq
    exact ⟨hr'.df, v, k1, v, rfl, h1.bel, k2⟩
  | panic c => exact (hp c rfl).elim
  | exit i => exact hq.elim
  | goto l => exact hq.elim
  | outgrown => exact hq.elim
theorem Athen_normal {R : St → Prop} {Q : Exit → St → Prop} {st : St} : Athen R Q .normal st = R st := rfl
theorem Athen_exit {R : St → Prop} {Q : Exit → St → Prop} {st : St} {i : Nat} : Athen R Q (.exit i) st = Q (.exit i) st := rfl
theorem Athen_ret {R : St → Prop} {Q : Exit → St → Prop} {st : St} : Athen R Q .ret st = Q .ret st := rfl
theorem Ablock_normal {i : Nat} {Q : Exit → St → Prop} {st : St} : Ablock i Q .normal st = Q .normal st := rfl
theorem Ablock_ret {i : Nat} {Q : Exit → St → Prop} {st : St} : Ablock i Q .ret st = Q .ret st := rfl
theorem Ablock_exit {i j : Nat} {Q : Exit → St → Prop} {st : St} : Ablock i Q (.exit j) st = if j = i then Q .normal st else Q (.exit j) st := rfl
theorem Aret_normal {P : Program} {R : List ResultVar} {res : AV} {st : St} : Aret P R res .normal st = Ares P R res st := rfl
theorem ArI_normal {P : Program} {Rl : List ResultVar} {R : AV → Hp → Nat → Prop} {st : St} : ArI P Rl R .normal st = ArI0 P Rl R st := rfl
theorem ArI_ret {P : Program} {Rl : List ResultVar} {R : AV → Hp → Nat → Prop} {st : St} : ArI P Rl R .ret st = ArI0 P Rl R st := rfl
theorem Aret_ret {P : Program} {R : List ResultVar} {res : AV} {st : St} : Aret P R res .ret st = Ares P R res st := rfl
def ALg (P : Program) (N : Nat) (I : List Nat) (Q : St → Prop) (g : Option Bool) (o : Oper) (os : List Oper) (gs : List (Option (Nat × Bool))) (st : St) : Prop :=
  match g with
  | some true => stepA P N I st o (AL P N I Q os gs)
  | some false => AL P N I Q os gs (putO st o.dst (.tup []))
  | none => False
def ATt (P : Program) (N : Nat) (Q : St → Prop) (g : Option Bool) (o : Oper) (r : SchO) (st : St) : Prop :=
  match g with
  | some true => match o.dst with
    | some d => fin1 (stillB P st o.op) d N (AT P N Q r) st
    | none => False
  | some false => AT P N Q r (putO st o.dst (.tup []))
  | none => False
def ATe (P : Program) (N : Nat) (Q : St → Prop) (g : Option Bool) (o : Oper) (r : SchO) (st : St) : Prop :=
  match g with
  | some true => stepA P N [] st o (AT P N Q r)
  | some false => AT P N Q r (putO st o.dst (.tup []))
  | none => False
section
variable {P : Program} {N : Nat} {I : List Nat} {Q : St → Prop} {st : St} {o oi oj : Oper} {os : List Oper} {g : Option (Nat × Bool)} {gs : List (Option (Nat × Bool))} {r s : SchO}
theorem AL_nil : AL P N I Q [] gs st = Q st := by cases gs <;> rfl
theorem AL_cons : AL P N I Q (o :: os) (g :: gs) st = ALg P N I Q (gd g st) o os gs st := rfl
theorem ALg_t : ALg P N I Q (some true) o os gs st = stepA P N I st o (AL P N I Q os gs) := rfl
theorem ALg_f : ALg P N I Q (some false) o os gs st = AL P N I Q os gs (putO st o.dst (.tup [])) := rfl
theorem AT_nil : AT P N Q .nil st = Q st := rfl
theorem AT_take : AT P N Q (.take o g r) st = ATt P N Q (gd g st) o r st := by
  simp only [AT, ATt]
  cases gd g st with
  | none => rfl
  | some b =>
    cases b with
    | false => rfl
    | true =>
      cases o.dst with
      | none => rfl
      | some d =>
        simp only [fin1]
        cases stillB P st o.op with
        | none => rfl
        | some q => rfl
theorem AT_eff : AT P N Q (.eff o g r) st = ATe P N Q (gd g st) o r st := rfl
theorem ATt_t {d : Nat} {op : Op} {t : TypeId} {ps : String} {af : Array Edge} {gg : Option (Nat × Bool)} : ATt P N Q (some true) ⟨some d, op, t, ps, af, gg⟩ r st = fin1 (stillB P st op) d N (AT P N Q r) st := rfl
theorem ATt_f : ATt P N Q (some false) o r st = AT P N Q r (putO st o.dst (.tup [])) := rfl
theorem ATe_t : ATe P N Q (some true) o r st = stepA P N [] st o (AT P N Q r) := rfl
theorem ATe_f : ATe P N Q (some false) o r st = AT P N Q r (putO st o.dst (.tup [])) := rfl
theorem AT_two : AT P N Q (.two oi oj r s) st = (stepA P N [] st oi (AT P N Q r) ∧ stepA P N [] st oj (AT P N Q s)) := rfl
theorem fin1_some {p : Prop} {x : AV} {d : Nat} {K : St → Prop} : fin1 (some (p, x)) d N K st = (d < N ∧ p ∧ K ⟨up st.tm d x, st.H, st.nx, st.nb⟩) := rfl
theorem fin2_some {p : Prop} {st' : St} {d : Nat} {K : St → Prop} : fin2 (some (p, st')) d N K = (d < N ∧ p ∧ K st') := rfl
theorem finOr_some {x : Prop × St} {r : Option (Prop × St)} {d : Nat} {K : St → Prop} : finOr (some x) r d N K = fin2 (some x) d N K := rfl
theorem finOr_none {r : Option (Prop × St)} {d : Nat} {K : St → Prop} : finOr none r d N K = fin2 r d N K := rfl
theorem finSl_some {x : Prop × St} {r : Option (Prop × AV)} {d : Nat} {K : St → Prop} : finSl (some x) r d N K st = fin2 (some x) d N K := rfl
theorem finSl_none {r : Option (Prop × AV)} {d : Nat} {K : St → Prop} : finSl none r d N K st = fin1 r d N K st := rfl
theorem orS_some {x : Prop × AV} {r : Option (Prop × AV)} : orS (some x) r = some x := rfl
theorem orS_none {r : Option (Prop × AV)} : orS none r = r := rfl
theorem fin0_some {p : Prop} {st' : St} {K : St → Prop} : fin0 (some (p, st')) K = (p ∧ K st') := rfl
theorem finC_some {f : FuncId} {p : Prop} {ys : List A1} {b : Bool} {d : Nat} {K : St → Prop} : finC P f (some (p, ys, b)) d N K st = (d < N ∧ p ∧ ∃ res, ACall P f ys res ∧ allA (if b then flat1 else pure1) res = true ∧ Later K ⟨up st.tm d res, st.H, st.nx, st.nb⟩) := rfl
end
theorem finX_t {P : Program} {f : FuncId} {xs : List AV} {d N : Nat} {K : St → Prop} {st : St} : finX P f true xs d N K st = finI P f (raws xs) d N K st := rfl
theorem finX_f {P : Program} {f : FuncId} {xs : List AV} {d N : Nat} {K : St → Prop} {st : St} : finX P f false xs d N K st = finC P f (snaps st xs) d N K st := rfl
theorem finF_some {P : Program} {f : FuncId} {b : Bool} {xs : List AV} {d N : Nat} {K : St → Prop} {st : St} : finF P (some f) b xs d N K st = finX P f b xs d N K st := rfl
theorem finI_some {P : Program} {f : FuncId} {ys : List A1} {d N : Nat} {K : St → Prop} {st : St} : finI P f (some ys) d N K st = (d < N ∧ ∃ R, ACallI P f ys st.H st.nx R ∧ LaterI R d K st.tm st.nb) := rfl
theorem ite_tt {α : Type} (a b : α) : (if true = true then a else b) = a := rfl
theorem ite_ft {α : Type} (a b : α) : (if false = true then a else b) = b := rfl
theorem beq_ft : (false == true) = false := rfl
theorem beq_tf : (true == false) = false := rfl
theorem beq_ff : (false == false) = true := rfl
theorem beq_tt : (true == true) = true := rfl
theorem rel_keep (tm' : Nat → AV) (H' : Hp) (ht : ∀ t, tm' t = st.tm t ∨ tm' t = .dead) (hH : ∀ nm B, H' nm = some B → st.H nm = some B) (hr : Rel e k0 N st a w) : Rel e k0 N ⟨tm', H', st.nx, st.nb⟩ a w := by
  obtain ⟨σ, h1, h2, h3⟩ := hr.ex
  have hext : Ext (kx e st.H st.nx σ w) (kx e H' st.nx σ w) :=
    ⟨Nat.le_refl _, fun b hb => ⟨⟨hb.1, hb.2.1, fun nm B hB => hb.2.2 nm B (hH nm B hB)⟩, rfl⟩, fun nm B hB => .inr ⟨B, hH nm B hB, rfl, rfl, rfl, rfl⟩⟩
  refine ⟨⟨σ, ⟨h1.bel, h1.hT, fun nm B hB => ?_, fun nm nm' B B' hB hB' => h1.inj nm nm' B B' (hH nm B hB) (hH nm' B' hB')⟩, fun t => ?_, h3.trans hext⟩, hr.df, hr.sz⟩
  · exact ⟨(h1.blk nm B (hH nm B hB)).1, (h1.blk nm B (hH nm B hB)).2.kept (row := none) ⟨rfl, rfl, rfl, Nat.le_refl _, fun _ _ _ => rfl⟩ (Classical.em _) rfl rfl hext⟩
  rcases ht t with h | h
  · show denA _ _ (tm' t); rw [h]; exact denA_ext hext (h2 t)
  show denA _ _ (tm' t); rw [h]; trivial
theorem rel_publish {t nm s n sz : Nat} {B : Blk} (hB : st.H nm = some B) (hsz : sz ≠ 0) (hs : B.st = s) (htm : st.tm t = .val (.one (.own nm s n sz))) (hr : Rel e k0 N st a w) :
    Rel e k0 N ⟨up st.tm t (.val (.one (.sh sz n B.cs))), up st.H nm none, st.nx, st.nb⟩ a w := by
  obtain ⟨σ, h1, h2, h3⟩ := hr.ex
  obtain ⟨k1, k2⟩ := h1.drop nm
  refine ⟨⟨σ, k1, fun t' => ?_, h3.trans k2⟩, hr.df, hr.sz⟩
  show denA _ _ (up st.tm t _ t')
  by_cases htt : t' = t
  · subst htt
    rw [up_same]
    have h4 := h2 t'
    rw [htm] at h4
    simp only [denA, den1, den] at h4
    obtain ⟨g1, g2, g3⟩ := h4.2.2 B hB hs
    have g1' : a.tmps.getD t' undef = σ nm := g1
    show den (kx e (up st.H nm none) st.nx σ w) _ _
    rw [g1', ← g2, ← g3]
    exact h1.publish hB (by rw [g3]; exact hsz)
  rw [up_ne _ _ htt]; exact denA_ext k2 (h2 t')
theorem rel_nil {t d : Nat} (E : TypeId) (sz : Nat) (hsz : sz ≠ 0) (htm : st.tm t = .val (.one (.lit (.slice none 0 0)))) (hr : Rel e k0 N st a w) :
    Rel e k0 N ⟨up st.tm t (.val (.one (.own d st.nx 0 sz))), up st.H d (some ⟨st.nx, E, sz, 0, []⟩), st.nx + 1, st.nb⟩ a w := by
  obtain ⟨σ, h1, h2, h3⟩ := hr.ex
  obtain ⟨k1, k2⟩ := RW.new (nm0 := d) (d := d) (row := none) h1 (w' := w) ⟨rfl, rfl, rfl, Nat.le_refl _, fun _ _ _ => rfl⟩ (B' := ⟨st.nx, E, sz, 0, []⟩) (v' := .slice none 0 0) (xs := []) rfl hsz (by simp) (by simp) (by simp [obk]) (w.ownsRow_nil _ _ _) trivial
  rw [up_up] at k1 k2
  refine ⟨⟨_, k1, fun t' => ?_, h3.trans k2⟩, hr.df, hr.sz⟩
  show denA _ _ (up st.tm t _ t')
  by_cases htt : t' = t
  · subst htt
    rw [up_same]
    have h4 := h2 t'
    rw [htm] at h4
    simp only [denA, den1, den] at h4
    rw [h4.1]
    exact den_new_own d σ w rfl
  rw [up_ne _ _ htt]; exact denA_ext k2 (h2 t')
theorem rel_nil_cell {nm off d : Nat} {B : Blk} (E : TypeId) (sz : Nat) (hsz' : sz ≠ 0) (hB : st.H nm = some B) (hne : nm ≠ d) (hsz : B.sz ≠ 0) (hc : B.cs[off]? = some (.lit (.slice none 0 0))) (hr : Rel e k0 N st a w) :
    Rel e k0 N ⟨st.tm, up (up st.H d (some ⟨st.nx, E, sz, 0, []⟩)) nm (some { B with cs := B.cs.set off (.own d st.nx 0 sz) }), st.nx + 1, st.nb⟩ a w := by
  obtain ⟨σ, h1, h2, h3⟩ := hr.ex
  obtain ⟨k1, k2⟩ := RW.new (nm0 := d) (d := d) (row := none) h1 (w' := w) ⟨rfl, rfl, rfl, Nat.le_refl _, fun _ _ _ => rfl⟩ (B' := ⟨st.nx, E, sz, 0, []⟩) (v' := .slice none 0 0) (xs := []) rfl hsz' (by simp) (by simp) (by simp [obk]) (w.ownsRow_nil _ _ _) trivial
  rw [up_up] at k1 k2
  have hB' : up st.H d (some ⟨st.nx, E, sz, 0, []⟩) nm = some B := by rw [up_ne _ _ hne]; exact hB
  obtain ⟨g1, g2, xs, g3, g4⟩ := k1.rowOf hB' (.inl hsz)
  obtain ⟨u, q1, q2⟩ := g4.get off hc
  simp only [den] at q2
  have hlt : off < xs.length := (List.getElem?_eq_some_iff.1 q1).1
  have hxu : xs[off] = .slice none 0 0 := by
    have := (List.getElem?_eq_some_iff.1 q1).2
    rw [this]; exact q2.1
  have hset : xs.set off (.slice none 0 0) = xs := by rw [← hxu]; exact List.set_getElem_self hlt
  have hown := den_new_own (e := e) (H := st.H) (nx := st.nx) (E := E) (sz := sz) (n := 0) (cs := []) d (v := .slice none 0 0) σ w rfl
  have hd := g4.set off (v := .slice none 0 0) (c := .own d st.nx 0 sz) hown
  rw [hset] at hd
  obtain ⟨m1, m2⟩ := k1.upd (w' := w) hB' ⟨rfl, rfl, rfl, Nat.le_refl _, fun _ _ _ => rfl⟩ (cs := B.cs.set off (.own d st.nx 0 sz)) hsz (by simpa using g2) g3 hd
  exact ⟨⟨_, m1, fun t' => denA_ext (k2.trans m2) (h2 t'), h3.trans (k2.trans m2)⟩, hr.df, hr.sz⟩
end
end Go.Proofs.Ytokmkopihhnggaa
