/- The abstract machine: contracts that were proved over the model, taken over. -/
import Derived.Test.YtokmkopihhnggaaDoorAb8M
import Derived.Test.YtokmkopihhnggaaDoorVal3M
import Derived.Test.YtokmkopihhnggaaDoorProg
set_option linter.unusedVariables false
set_option linter.unusedSimpArgs false
set_option linter.defProp false
set_option linter.unnecessarySimpa false
set_option linter.unusedSectionVars false
section
/- The abstract machine: contracts that were proved over the model, taken over. -/
namespace Go.Proofs.YtokmkopihhnggaaDoor
open Go Go.RowKit
def liftV : Value → A1
  | .agg cs => .agg (cs.toList.map .lit)
  | v => .one (.lit v)
theorem liftV_den {κ : Kx} {v u : Value} (h : den1 κ u (liftV v)) : u = v := by
  have key : ∀ (l vs : List Value), denVs κ vs (l.map .lit) → vs = l := by
    intro l
    induction l with
    | nil => intro vs h; exact List.eq_nil_of_length_eq_zero h.length
    | cons x l ih =>
      intro vs h
      cases vs with
      | nil => exact h.elim
      | cons y vs =>
        have h1 := h.1
        simp only [den] at h1
        rw [ih vs h.2, h1.1]
  cases v with
  | agg cs =>
    obtain ⟨vs, h1, h2⟩ := h
    rw [h1, key _ _ h2]
  | _ =>
    simp only [liftV, den1, den] at h
    exact h.1
theorem liftVs_den {κ : Kx} : ∀ {l vs : List Value}, den1s κ vs (l.map liftV) → vs = l
  | [], [], _ => rfl
  | [], _ :: _, h => h.elim
  | _ :: _, [], h => h.elim
  | x :: l, v :: vs, h => by rw [liftV_den h.1, liftVs_den h.2]
theorem acall_flat {P : Program} {f : FuncId} (hfn : fnOK P f) (vals : List Value) (v : Value) (h : ∀ w, Calls P f vals.toArray w fun e w' => e = .returned v ∧ Below w.heap.size w w') :
    ACall P f (vals.map liftV) (litA v) :=
  ⟨hfn, fun w T vs _ hd => by
    rw [liftVs_den hd]
    exact (h w).mono fun e w' ⟨he, hb⟩ => ⟨v, he, hb, denA_lit _ _⟩⟩
theorem fnOK_of {P : Program} {f : FuncId} {fn : Func} (h : P.funcs[f]? = some fn) (h2 : fn.name ≠ "runtime.NumGoroutine") (h3 : fn.body.isNone = false) : fnOK P f := ⟨fn, h, h2, h3⟩
def cRat (r : GRat) : List C := [.lit (.bool r.neg), .lit (.string r.num), .lit (.string r.den)]
theorem aSign (r : GRat) (h1 : r.num.size ≤ 500000000000) (h2 : r.den.size ≤ 500000000000) : ACall Tryd.prog 15 [.agg (cRat r)] (one (.int .i64 (qSgn (qOf r)))) :=
  acall_flat (fnOK_of Tryd.func15 (by decide) (by kernel_rfl)) [vRat r] (.int .i64 (qSgn (qOf r))) fun w => qSign_any r w h1 h2
end Go.Proofs.YtokmkopihhnggaaDoor
end
section
/- The abstract machine: states kept small, loops and joins over them; rows of records. No program in sight. -/
namespace Go.Proofs.YtokmkopihhnggaaDoor
open Go Go.RowKit
def keepT (f : Nat → AV) : List Nat → Nat → AV
  | [] => fun _ => .dead
  | i :: l => up (keepT f l) i (f i)
def keepH (f : Hp) : List Nat → Hp
  | [] => fun _ => none
  | i :: l => up (keepH f l) i (f i)
theorem keepT_ok (f : Nat → AV) : ∀ (l : List Nat) (t : Nat), keepT f l t = f t ∨ keepT f l t = .dead
  | [], _ => .inr rfl
  | i :: l, t => by
    simp only [keepT]
    by_cases h : t = i
    · subst h; rw [up_same]; exact .inl rfl
    rw [up_ne _ _ h]; exact keepT_ok f l t
theorem keepH_ok (f : Hp) : ∀ (l : List Nat) (nm : Nat) (B : Blk), keepH f l nm = some B → f nm = some B
  | [], _, _, h => by cases h
  | i :: l, nm, B, h => by
    simp only [keepH] at h
    by_cases hi : nm = i
    · subst hi; rw [up_same] at h; exact h
    rw [up_ne _ _ hi] at h; exact keepH_ok f l nm B h
def keepOn (H0 f : Hp) : List Nat → Hp
  | [] => H0
  | i :: l => up (keepOn H0 f l) i (f i)
theorem keepOn_ok (H0 f : Hp) : ∀ (l : List Nat), (∀ x B, H0 x = some B → hasN l x = true ∨ f x = some B) → ∀ (nm : Nat) (B : Blk), keepOn H0 f l nm = some B → f nm = some B
  | [], h, nm, B, hk => (h nm B hk).resolve_left (by simp [hasN])
  | i :: l, h, nm, B, hk => by
    simp only [keepOn] at hk
    by_cases hi : nm = i
    · subst hi; rw [up_same] at hk; exact hk
    rw [up_ne _ _ hi] at hk
    have key : ∀ (l' : List Nat), keepOn H0 f l' nm = some B → hasN l' nm = true → f nm = some B := by
      intro l'
      induction l' with
      | nil => intro _ h; simp [hasN] at h
      | cons j l' ih =>
        intro h1 h2
        simp only [keepOn] at h1
        by_cases hj : nm = j
        · subst hj; rw [up_same] at h1; exact h1
        rw [up_ne _ _ hj] at h1
        simp only [hasN, Bool.or_eq_true, beq_iff_eq] at h2
        exact ih h1 (h2.resolve_left (fun e => hj e.symm))
    have key2 : ∀ (l' : List Nat), keepOn H0 f l' nm = some B → hasN l' nm = false → H0 nm = some B := by
      intro l'
      induction l' with
      | nil => intro h _; exact h
      | cons j l' ih =>
        intro h1 h2
        simp only [keepOn] at h1
        simp only [hasN, Bool.or_eq_false_iff, beq_eq_false_iff_ne, ne_eq] at h2
        rw [up_ne _ _ (fun e => h2.1 e.symm)] at h1
        exact ih h1 h2.2
    cases hh : hasN l nm with
    | true => exact key l hk hh
    | false =>
      have h3 := key2 l hk hh
      refine (h nm B h3).resolve_left ?_
      simp only [hasN, hh, Bool.or_false]
      simp only [beq_iff_eq]
      exact fun e => hi e.symm
def Wk (e : En) (k0 : Kx) (N : Nat) (st st2 : St) : Prop := ∀ a w, Rel e k0 N st a w → Rel e k0 N st2 a w
section
variable {P : Program} {e : En} {k0 : Kx} {N : Nat} {st st2 st3 : St} {Q : Exit → St → Prop}
theorem Wk.refl (st : St) : Wk e k0 N st st := fun _ _ h => h
theorem Wk.trans (h : Wk e k0 N st st2) (k : Wk e k0 N st2 st3) : Wk e k0 N st st3 := fun a w hr => k a w (h a w hr)
theorem wk_keep (l m : List Nat) : Wk e k0 N st ⟨keepT st.tm l, keepH st.H m, st.nx, st.nb⟩ := fun a w hr => rel_keep _ _ (keepT_ok _ l) (keepH_ok _ m) hr
theorem wk_on (H0 : Hp) (l m : List Nat) (h : ∀ x B, H0 x = some B → hasN m x = true ∨ st.H x = some B) : Wk e k0 N st ⟨keepT st.tm l, keepOn H0 st.H m, st.nx, st.nb⟩ := fun a w hr => rel_keep _ _ (keepT_ok _ l) (keepOn_ok _ _ m h) hr
theorem awp_on {c : Code} (H0 : Hp) (l m : List Nat) (h : ∀ x B, H0 x = some B → hasN m x = true ∨ st.H x = some B) (h2 : Awp P e k0 N c Q ⟨keepT st.tm l, keepOn H0 st.H m, st.nx, st.nb⟩) : Awp P e k0 N c Q st := awp_pre _ (wk_on H0 l m h) h2
theorem awp_wk {c : Code} (h : Wk e k0 N st st2) (h2 : Awp P e k0 N c Q st2) : Awp P e k0 N c Q st := awp_pre st2 h h2
theorem awp_keep {c : Code} (l m : List Nat) (h2 : Awp P e k0 N c Q ⟨keepT st.tm l, keepH st.H m, st.nx, st.nb⟩) : Awp P e k0 N c Q st := awp_pre _ (wk_keep l m) h2
theorem awp_nil {c : Code} (t d : Nat) (E : TypeId) (sz : Nat) (hsz : sz ≠ 0) (htm : st.tm t = .val (.one (.lit (.slice none 0 0)))) (h : Awp P e k0 N c Q ⟨up st.tm t (.val (.one (.own d st.nx 0 sz))), up st.H d (some ⟨st.nx, E, sz, 0, []⟩), st.nx + 1, st.nb⟩) : Awp P e k0 N c Q st :=
  awp_pre _ (fun _ _ hr => rel_nil E sz hsz htm hr) h
theorem awp_nilc {c : Code} (nm off d : Nat) (B : Blk) (E : TypeId) (sz : Nat) (hsz' : sz ≠ 0) (hB : st.H nm = some B) (hne : nm ≠ d) (hsz : B.sz ≠ 0) (hc : B.cs[off]? = some (.lit (.slice none 0 0)))
    (h : Awp P e k0 N c Q ⟨st.tm, up (up st.H d (some ⟨st.nx, E, sz, 0, []⟩)) nm (some { B with cs := B.cs.set off (.own d st.nx 0 sz) }), st.nx + 1, st.nb⟩) : Awp P e k0 N c Q st :=
  awp_pre _ (fun _ _ hr => rel_nil_cell E sz hsz' hB hne hsz hc hr) h
theorem awp_loopw {c : Code} (I : Nat → St → Prop) (n0 : Nat) (h0 : I n0 st) (round : ∀ n st, I n st → Awp P e k0 N c (Athen (fun st' => ∃ st2, Wk e k0 N st' st2 ∧ ∃ m, m < n ∧ I m st2) Q) st) : Awp P e k0 N (.loop c) Q st := by
  refine awp_loop (fun n st => ∃ st2, Wk e k0 N st st2 ∧ I n st2) n0 ⟨st, Wk.refl st, h0⟩ fun n st ⟨st2, hw, hI⟩ => ?_
  refine awp_wk hw (awp_mono (round n st2 hI) fun ex st' hq => ?_)
  cases ex with
  | normal =>
    obtain ⟨st3, h1, m, h2, h3⟩ := hq
    exact ⟨m, h2, st3, h1, h3⟩
  | _ => exact hq
end
def mkT : List (Nat × AV) → Nat → AV
  | [] => fun _ => .dead
  | x :: l => up (mkT l) x.1 x.2
def mkOn (H0 : Hp) : List (Nat × Blk) → Hp
  | [] => H0
  | x :: l => up (mkOn H0 l) x.1 (some x.2)
def mkH : List (Nat × Blk) → Hp
  | [] => fun _ => none
  | x :: l => up (mkH l) x.1 (some x.2)
theorem inK_i64 (n : Int) : inK .i64 n ↔ -9223372036854775808 ≤ n ∧ n ≤ 9223372036854775807 := by
  have h1 : IntKind.i64.min = -9223372036854775808 := by decide
  have h2 : IntKind.i64.max = 9223372036854775807 := by decide
  unfold inK; rw [h1, h2]
theorem repl_zero (z : List C) : repl 0 z = [] := rfl
theorem repl_succ (n : Nat) (z : List C) : repl (n + 1) z = z ++ repl n z := by simp [repl, List.replicate_succ]
theorem spl_nil (cs : List C) (off : Nat) : spl cs off [] = cs := by simp [spl]
theorem spl_cons0 (c d : C) (cs ds : List C) : spl (c :: cs) 0 (d :: ds) = d :: spl cs 0 ds := by simp [spl]
theorem spl_succ (c : C) (cs ds : List C) (n : Nat) : spl (c :: cs) (n + 1) ds = c :: spl cs n ds := by
  simp only [spl, List.take_succ_cons, List.cons_append]
  rw [show n + 1 + ds.length = (n + ds.length) + 1 by omega, List.drop_succ_cons]
def SS := And.intro @finOr_some (And.intro @finOr_none (And.intro @finSl_some (And.intro @finSl_none (And.intro @orS_some (And.intro @orS_none (And.intro @effZ.eq_def (And.intro @effSl.eq_def (And.intro @stillNil.eq_def (And.intro @stillCap.eq_def (And.intro @stillMM.eq_def (And.intro @gd.eq_def (And.intro @stepA.eq_def (And.intro @eff.eq_def (And.intro @ev.eq_def (And.intro @litA.eq_def (And.intro @cellsOf.eq_def (And.intro @A1.cells.eq_def (And.intro @stillB.eq_def (And.intro @still.eq_def (And.intro @stillVal.eq_def (And.intro @stillAddr.eq_def (And.intro @stillCall.eq_def (And.intro @lenA.eq_def (And.intro @bnd.eq_def (And.intro @cut.eq_def (And.intro @cut1.eq_def (And.intro @snaps.eq_1 (And.intro @snaps.eq_2 (And.intro @snap1.eq_def (And.intro @snapCs.eq_1 (And.intro @snapCs.eq_2 (And.intro @snapC.eq_def (And.intro @pureCs.eq_1 (And.intro @pureCs.eq_2 (And.intro @pureC.eq_1 (And.intro @pureC.eq_2 (And.intro @pureC.eq_3 (And.intro @pureC.eq_4 (And.intro @abin.eq_def (And.intro @allA.eq_def (And.intro @pure1.eq_def (And.intro @flat1.eq_def (And.intro @Ares.eq_def (And.intro @resL.eq_1 (And.intro @resL.eq_2 (And.intro @resV.eq_def (And.intro @tupA.eq_def (And.intro @putO.eq_def (And.intro @ini.eq_def (And.intro @iniT.eq_1 (And.intro @iniT.eq_2 (And.intro @srcA.eq_def (And.intro @fillC.eq_1 (And.intro @fillC.eq_2 (And.intro @stillBuild.eq_def (And.intro @litsOf.eq_1 (And.intro @litsOf.eq_2 (And.intro @keepT.eq_1 (And.intro @keepT.eq_2 (And.intro @keepH.eq_1 (And.intro @keepH.eq_2 (And.intro @flatC.eq_def (And.intro @mkT.eq_1 (And.intro @mkT.eq_2 (And.intro @mkH.eq_1 (And.intro @mkH.eq_2 (And.intro @inK_i64 (And.intro @repl_zero (And.intro @repl_succ (And.intro @spl_nil (And.intro @spl_cons0 (And.intro @spl_succ (And.intro @AL_nil (And.intro @AL_cons (And.intro @AT_nil (And.intro @AT_take (And.intro @AT_eff (And.intro @ALg_t (And.intro @ALg_f (And.intro @ATt_t (And.intro @ATt_f (And.intro @ATe_t (And.intro @ATe_f (And.intro @fin1_some (And.intro @fin2_some (And.intro @fin0_some (And.intro @SchO.mk.eq_1 (And.intro @SchO.mk.eq_2 (And.intro @SchO.mk.eq_3 (And.intro @keepOn.eq_1 (And.intro @keepOn.eq_2 (And.intro @mkOn.eq_1 (And.intro @mkOn.eq_2 (And.intro @ArI_normal (And.intro @ArI_ret (And.intro @ArI0.eq_def (And.intro @resI.eq_1 (And.intro @resI.eq_2 (And.intro @stillLook.eq_def (And.intro @keyV.eq_def (And.intro @lookA.eq_def (And.intro @effMk.eq_def (And.intro @effPut.eq_def (And.intro @hasN.eq_1 (And.intro @hasN.eq_2 (And.intro @finX_t (And.intro @finX_f (And.intro @finF_some (And.intro @finI_some (And.intro @fnOf.eq_def (And.intro @raws.eq_1 (And.intro @raws.eq_2 (And.intro @finC_some (And.intro @ite_tt (And.intro @ite_ft (And.intro @AT_two (And.intro @beq_ft (And.intro @beq_tf (And.intro @beq_ff (And.intro @beq_tt (And.intro @up_apply (And.intro @Athen_normal (And.intro @Athen_exit (And.intro @Athen_ret (And.intro @Ablock_normal (And.intro @Ablock_ret (And.intro @Ablock_exit (And.intro @Aret_normal (And.intro @Aret_ret (And.intro @Option.bind_some.{0,0} (And.intro @Option.bind_none.{0,0} (And.intro @Option.map_some.{0,0} (And.intro @Option.map_none.{0,0} (And.intro @List.toList_toArray.{0} (And.intro @List.map_cons.{0,0} (And.intro @List.map_nil.{0,0} (And.intro @List.drop_succ_cons.{0} (And.intro @List.drop_zero.{0} (And.intro @List.take_succ_cons.{0} (And.intro @List.take_zero.{0} (And.intro @List.length_cons.{0} (And.intro @List.length_nil.{0} (And.intro @List.getElem?_cons_zero.{0} (And.intro @List.getElem?_cons_succ.{0} (And.intro @List.getElem?_toArray.{0} (And.intro @true_and (And.intro @and_true (And.intro @Bool.or_false (And.intro @Bool.false_or (And.intro @Bool.and_true (And.intro @decide_true (And.intro @decide_false (And.intro @not_true_eq_false (And.intro @not_false_eq_true (And.intro @Nat.zero_add (And.intro @true_or (And.intro @or_true (And.intro @exists_eq_left'.{1} (And.intro @Option.some.injEq.{0} (And.intro @Bool.true_and (And.intro @Bool.false_and (And.intro @Bool.and_self (And.intro @Bool.not_true (And.intro @Bool.not_false (And.intro @List.all_cons.{0} (And.intro @List.all_nil.{0} (And.intro @List.set_cons_zero.{0} (And.intro @List.set_cons_succ.{0} (And.intro @if_true.{1} (And.intro @if_false.{1} (And.intro @Nat.add_zero (And.intro @Nat.zero_mul (And.intro @Nat.mul_one (And.intro @Nat.one_mul (And.intro @List.nil_append.{0} (And.intro @List.cons_append.{0} (And.intro @List.append_nil.{0} (@Int.toNat_natCast))))))))))))))))))))))))))))))))))))))))))))))))))))))))))))))))))))))))))))))))))))))))))))))))))))))))))))))))))))))))))))))))))))))))))))))))))))))))))))))))))))))))))))))))))
def flat {α : Type} (f : α → List C) (l : List α) : List C := (l.map f).flatten
theorem flat_nil {α : Type} (f : α → List C) : flat f [] = [] := rfl
theorem flat_cons {α : Type} (f : α → List C) (a : α) (l : List α) : flat f (a :: l) = f a ++ flat f l := by simp [flat]
theorem flat_append {α : Type} (f : α → List C) (l m : List α) : flat f (l ++ m) = flat f l ++ flat f m := by simp [flat]
theorem flat_length {α : Type} {f : α → List C} {sz : Nat} (hf : ∀ a, (f a).length = sz) : ∀ l : List α, (flat f l).length = l.length * sz
  | [] => by simp [flat]
  | a :: l => by rw [flat_cons, List.length_append, hf, flat_length hf l, List.length_cons, Nat.succ_mul, Nat.add_comm]
theorem flat_drop {α : Type} {f : α → List C} {sz : Nat} (hf : ∀ a, (f a).length = sz) : ∀ (l : List α) (k : Nat), (flat f l).drop (k * sz) = flat f (l.drop k)
  | l, 0 => by simp
  | [], k + 1 => by simp [flat]
  | a :: l, k + 1 => by
    rw [flat_cons, Nat.succ_mul, Nat.add_comm, ← List.drop_drop, List.drop_left' (hf a), flat_drop hf l k, List.drop_succ_cons]
theorem flat_at {α : Type} {f : α → List C} {sz : Nat} (hf : ∀ a, (f a).length = sz) (l : List α) (k : Nat) (h : k < l.length) : (flat f l).drop (k * sz) = f l[k] ++ flat f (l.drop (k + 1)) := by
  rw [flat_drop hf, List.drop_eq_getElem_cons h, flat_cons]
theorem pure_append (a b : List C) : pureCs (a ++ b) = (pureCs a && pureCs b) := by
  induction a with
  | nil => simp [pureCs]
  | cons c a ih => simp [pureCs, ih, Bool.and_assoc]
theorem flat_pure {α : Type} {f : α → List C} (hf : ∀ a, pureCs (f a) = true) : ∀ l : List α, pureCs (flat f l) = true
  | [] => rfl
  | a :: l => by rw [flat_cons, pure_append, hf, flat_pure hf l]; rfl
theorem spl_mid {α : Type} (a b c d : List α) (h : b.length = d.length) : spl (a ++ (b ++ c)) a.length d = a ++ (d ++ c) := by
  simp [spl, ← h, List.drop_append]
section
variable {P : Program} {e : En} {k0 : Kx} {N : Nat} {st : St} {Q : Exit → St → Prop} {ops : Array Oper}
def lead (zP : Program) (ze : En) (zk : Kx) (zN : Nat) : Nat → Code → (Exit → St → Prop) → Code × (Exit → St → Prop)
  | n + 1, .seq x y, zQ => lead zP ze zk zN n x (Athen (Awp zP ze zk zN y zQ) zQ)
  | n + 1, .block i c, zQ => lead zP ze zk zN n c (Ablock i zQ)
  | _, c, zQ => (c, zQ)
theorem lead_ok (n : Nat) : ∀ (c : Code) (Q : Exit → St → Prop), Awp P e k0 N (lead P e k0 N n c Q).1 (lead P e k0 N n c Q).2 st → Awp P e k0 N c Q st := by
  induction n with
  | zero => intro c Q h; cases c <;> exact h
  | succ n ih =>
    intro c Q h
    cases c with
    | seq x y => exact awp_seq (ih _ _ h)
    | block i c => exact awp_block (ih _ _ h)
    | _ => exact h
theorem awL {c x : Code} {Q' : Exit → St → Prop} (hc : lead P e k0 N 99 c Q = (x, Q')) (h : Awp P e k0 N x Q' st) : Awp P e k0 N c Q st := lead_ok 99 c Q (by rw [hc]; exact h)
theorem awR (I : List Nat) {id : Nat} {l : List Oper} {c : Code} {Q' : Exit → St → Prop} (gs : List (Option (Nat × Bool))) (h : AL P N I (Q' .normal) l gs st) (hc : lead P e k0 N 99 c Q = (.region id ops false, Q') := by rfl) (hl : ops.toList = l := by rfl) (hg : guardsOf ops = gs := by kernel_rfl) (hN : decide (N < 1000000) = true := by decide) : Awp P e k0 N c Q st := awL hc (awp_region I hl hg hN h)
theorem awT {c : Operand} {b x y : Code} {Q' : Exit → St → Prop} (h : Awp P e k0 N x Q' st) (hb : lead P e k0 N 99 b Q = (.cond c x y, Q') := by rfl) (hc : ev st c = .val (.one (.lit (.bool true))) := by rfl) : Awp P e k0 N b Q st := awL hb (awp_cond true hc (fun _ => h) (fun h => by cases h))
theorem awF {c : Operand} {b x y : Code} {Q' : Exit → St → Prop} (h : Awp P e k0 N y Q' st) (hb : lead P e k0 N 99 b Q = (.cond c x y, Q') := by rfl) (hc : ev st c = .val (.one (.lit (.bool false))) := by rfl) : Awp P e k0 N b Q st := awL hb (awp_cond false hc (fun h => by cases h) (fun _ => h))
theorem awK {c : Code} {Q' : Exit → St → Prop} (h : Q' .normal st) (hb : lead P e k0 N 99 c Q = (.skip, Q') := by rfl) : Awp P e k0 N c Q st := awL hb (awp_skip h)
theorem awX {c : Code} {Q' : Exit → St → Prop} (h : Q' .ret st) (hb : lead P e k0 N 99 c Q = (.ret, Q') := by rfl) : Awp P e k0 N c Q st := awL hb (awp_ret h)
theorem awQ {c : Code} {i : Nat} {Q' : Exit → St → Prop} (h : Q' (.exit i) st) (hb : lead P e k0 N 99 c Q = (.exit i, Q') := by rfl) : Awp P e k0 N c Q st := awL hb (awp_exit h)
theorem ob {p q : Prop} (hq : q) (hp : p := by first|omega|(simp only [List.length_cons];omega)|exact ⟨⟨by omega,by omega⟩,rfl⟩|rfl) : p ∧ q := ⟨hp, hq⟩
def scq : List Nat → Sch → Sch
  | [], s => s
  | n :: l, s => .cons (n / 2) (n % 2 == 1) (scq l s)
def ALn (P : Program) (N : Nat) (Q : St → Prop) : List Oper → St → Prop
  | [], st => Q st
  | o :: os, st => stepA P N [] st o (ALn P N Q os)
theorem ALn_nil {Q : St → Prop} : ALn P N Q [] st = Q st := rfl
theorem ALn_cons {Q : St → Prop} {o : Oper} {os : List Oper} : ALn P N Q (o :: os) st = stepA P N [] st o (ALn P N Q os) := rfl
theorem ALn_eq {Q : St → Prop} : ∀ l : List Oper, ALn P N Q l = AL P N [] Q l (l.map fun _ => none)
  | [] => by funext st; rfl
  | o :: os => by
    funext st
    rw [ALn_cons, ALn_eq os]
    rfl
theorem allnone {α β : Type} : ∀ (xs : List (Option β)) (l : List α), xs.all Option.isNone = true → l.length = xs.length → xs = l.map fun _ => (none : Option β)
  | [], [], _, _ => rfl
  | x :: xs, a :: l, h, hl => by
    simp only [List.all_cons, Bool.and_eq_true, Option.isNone_iff_eq_none] at h
    obtain ⟨rfl, h2⟩ := h
    have e := allnone xs l h2 (by simpa using hl)
    rw [List.map_cons]
    exact congrArg _ e
  | [], _ :: _, _, hl => by simp at hl
  | _ :: _, [], _, hl => by simp at hl
theorem awN {id : Nat} {l : List Oper} {c : Code} {Q' : Exit → St → Prop} (h : ALn P N (Q' .normal) l st) (hc : lead P e k0 N 99 c Q = (.region id ops false, Q') := by rfl) (hl : ops.toList = l := by rfl) (hg : (guardsOf ops).all Option.isNone = true := by kernel_rfl) (hN : decide (N < 1000000) = true := by decide) : Awp P e k0 N c Q st :=
  awL hc (awp_region [] hl (allnone (guardsOf ops) l hg (by rw [← hl]; simp [guardsOf])) hN (by rw [← ALn_eq]; exact h))
def scT : Nat → Nat → Sch → Sch
  | _, 0, s => s
  | i, n + 1, s => .cons i true (scT (i + 1) n s)
def zS := And.intro (And.intro @ALn_nil @ALn_cons) (And.intro SS @ne_eq.{1})
theorem awD (s : Sch) (gs : List (Option (Nat × Bool))) {id : Nat} {r : SchO} {c : Code} {Q' : Exit → St → Prop} (h : AT P N (Q' .normal) r st) (hc : lead P e k0 N 99 c Q = (.region id ops true, Q') := by rfl) (hm : P.follows .mixedOrders = true := by kernel_rfl)
  (hB : (Region.noSelect ops && decide (s.len = ops.size) && schedP .any ops (keepsF ops) s (Array.replicate ops.size false)) = true := by kernel_rfl) (hg : guardsOf ops = gs := by kernel_rfl) (hr : SchO.mk ops gs s = some r := by simp only [scq.eq_1, scq.eq_2, scT.eq_1, scT.eq_2, (id zS), seval]; rfl) (hN : decide (N < 1000000) = true := by decide) : Awp P e k0 N c Q st := awL hc (awp_draws hm s hB hg hr hN h)
theorem awS {zP : Program} {ze : En} {zk : Kx} {zN : Nat} {zs : St} {zQ : Exit → St → Prop} {zx zy : Code} (zh : Awp zP ze zk zN zx (Athen (Awp zP ze zk zN zy zQ) zQ) zs) : Awp zP ze zk zN (.seq zx zy) zQ zs := awp_seq zh
theorem awB {zP : Program} {ze : En} {zk : Kx} {zN : Nat} {zs : St} {zQ : Exit → St → Prop} {zi : Nat} {zc : Code} (zh : Awp zP ze zk zN zc (Ablock zi zQ) zs) : Awp zP ze zk zN (.block zi zc) zQ zs := awp_block zh
end
theorem tf0 : elT Tryd.prog 69 = some (73, 5, 56) := by kernel_rfl
theorem tf1 : arT Tryd.prog 55 = none := by kernel_rfl
theorem tf2 : elT Tryd.prog 55 = some (69, 1, 24) := by kernel_rfl
theorem tf3 : ldT Tryd.prog 69 = some (false, 1) := by kernel_rfl
theorem tf4 : (Tryd.prog).underlying 3 = some (.int .i64) := by kernel_rfl
theorem tf5 : zrT Tryd.prog 73 = some [.int .i64 0, .bool false, .bool false, .string bEmpty, .string bEmpty] := by kernel_rfl
theorem tf6 : arT Tryd.prog 69 = none := by kernel_rfl
theorem tf7 : elT Tryd.prog 59 = some (3, 1, 8) := by kernel_rfl
theorem tf8 : foT Tryd.prog 57 0 = some (0, 55) := by kernel_rfl
theorem tf9 : foT Tryd.prog 73 0 = some (0, 3) := by kernel_rfl
theorem tf10 : ldT Tryd.prog 55 = some (false, 1) := by kernel_rfl
theorem tf11 : ldT Tryd.prog 73 = some (true, 5) := by kernel_rfl
theorem tf12 : ldT Tryd.prog 3 = some (false, 1) := by kernel_rfl
theorem tf13 : zrT Tryd.prog 3 = some [.int .i64 0] := by kernel_rfl
theorem tf14 : arT Tryd.prog 26 = none := by kernel_rfl
theorem tf15 : arT Tryd.prog 22 = none := by kernel_rfl
theorem tf16 : elT Tryd.prog 26 = some (33, 5, 56) := by kernel_rfl
theorem tf17 : elT Tryd.prog 22 = some (31, 5, 88) := by kernel_rfl
theorem tf18 : foT Tryd.prog 33 0 = some (0, 3) := by kernel_rfl
theorem tf19 : foT Tryd.prog 31 1 = some (3, 26) := by kernel_rfl
theorem tf20 : foT Tryd.prog 25 0 = some (0, 22) := by kernel_rfl
theorem tf21 : foT Tryd.prog 38 0 = some (0, 3) := by kernel_rfl
theorem tf22 : foT Tryd.prog 38 1 = some (1, 3) := by kernel_rfl
theorem tf23 : ldT Tryd.prog 26 = some (false, 1) := by kernel_rfl
theorem tf24 : ldT Tryd.prog 22 = some (false, 1) := by kernel_rfl
theorem tf25 : arT Tryd.prog 34 = none := by kernel_rfl
theorem tf26 : elT Tryd.prog 34 = some (38, 2, 16) := by kernel_rfl
theorem tf27 : foT Tryd.prog 36 0 = some (0, 28) := by kernel_rfl
theorem tf28 : foT Tryd.prog 36 1 = some (3, 34) := by kernel_rfl
theorem tf29 : ldT Tryd.prog 34 = some (false, 1) := by kernel_rfl
theorem tf30 : ldT Tryd.prog 25 = some (true, 2) := by kernel_rfl
theorem tf31 : ldT Tryd.prog 38 = some (true, 2) := by kernel_rfl
theorem tf32 : ldT Tryd.prog 28 = some (true, 3) := by kernel_rfl
theorem tf33 : mpT Tryd.prog 47 = some (38, .bool false) := by kernel_rfl
theorem tf34 : zrT Tryd.prog 38 = some [.int .i64 0, .int .i64 0] := by kernel_rfl
theorem tf35 : arT Tryd.prog 54 = none := by kernel_rfl
theorem tf36 : elT Tryd.prog 54 = some (4, 1, 1) := by kernel_rfl
theorem tf37 : foT Tryd.prog 73 1 = some (1, 4) := by kernel_rfl
theorem tf38 : foT Tryd.prog 73 2 = some (2, 28) := by kernel_rfl
theorem tf39 : ldT Tryd.prog 4 = some (false, 1) := by kernel_rfl
theorem tf40 : arT Tryd.prog 29 = none := by kernel_rfl
theorem tf41 : arT Tryd.prog 59 = none := by kernel_rfl
theorem tf42 : elT Tryd.prog 29 = some (57, 1, 24) := by kernel_rfl
theorem tf43 : foT Tryd.prog 33 1 = some (1, 3) := by kernel_rfl
theorem tf44 : foT Tryd.prog 33 2 = some (2, 28) := by kernel_rfl
theorem tf45 : foT Tryd.prog 31 0 = some (0, 28) := by kernel_rfl
theorem tf46 : foT Tryd.prog 31 2 = some (4, 29) := by kernel_rfl
theorem tf47 : ldT Tryd.prog 29 = some (false, 1) := by kernel_rfl
theorem tf48 : ldT Tryd.prog 57 = some (true, 1) := by kernel_rfl
theorem tf49 : ldT Tryd.prog 33 = some (true, 5) := by kernel_rfl
theorem tf50 : zrT Tryd.prog 57 = some [.slice none 0 0] := by kernel_rfl
theorem tf51 : zrT Tryd.prog 33 = some [.int .i64 0, .int .i64 0, .bool false, .string bEmpty, .string bEmpty] := by kernel_rfl
theorem tf52 : zrT Tryd.prog 4 = some [.bool false] := by kernel_rfl
theorem tf53 : arT Tryd.prog 23 = none := by kernel_rfl
theorem tf54 : elT Tryd.prog 23 = some (36, 4, 64) := by kernel_rfl
theorem tf55 : foT Tryd.prog 25 1 = some (1, 23) := by kernel_rfl
theorem tf56 : ldT Tryd.prog 23 = some (false, 1) := by kernel_rfl
theorem tf57 : ldT Tryd.prog 36 = some (true, 4) := by kernel_rfl
theorem tf58 : ldT Tryd.prog 31 = some (true, 5) := by kernel_rfl
theorem tf59 : zrT Tryd.prog 36 = some [.bool false, .string bEmpty, .string bEmpty, .slice none 0 0] := by kernel_rfl
theorem tf60 : zrT Tryd.prog 31 = some [.bool false, .string bEmpty, .string bEmpty, .slice none 0 0, .slice none 0 0] := by kernel_rfl
theorem tf61 : plT Tryd.prog 36 = some [(0, 3), (3, 1)] := by kernel_rfl
theorem tf62 : plT Tryd.prog 31 = some [(0, 3), (3, 1), (4, 1)] := by kernel_rfl
theorem tf63 : plT Tryd.prog 25 = some [(0, 1), (1, 1)] := by kernel_rfl
theorem tf64 : plT Tryd.prog 38 = some [(0, 1), (1, 1)] := by kernel_rfl
theorem tf65 : (Tryd.prog).underlying 5 = some (.int .u8) := by kernel_rfl
theorem tf66 : zrT Tryd.prog 25 = some [.slice none 0 0, .slice none 0 0] := by kernel_rfl
end Go.Proofs.YtokmkopihhnggaaDoor
end
