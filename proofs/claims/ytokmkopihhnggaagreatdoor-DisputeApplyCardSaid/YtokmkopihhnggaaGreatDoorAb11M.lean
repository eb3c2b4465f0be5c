/- The abstract machine: contracts that were proved over the model, taken over. -/
import Derived.Test.YtokmkopihhnggaaGreatDoorAb9M
import Derived.Test.YtokmkopihhnggaaGreatDoorVal2M
import Derived.Test.YtokmkopihhnggaaGreatDoorProg
set_option linter.unusedVariables false
set_option linter.unusedSimpArgs false
set_option linter.defProp false
set_option linter.unusedSectionVars false
namespace Go.Proofs.YtokmkopihhnggaaGreatDoor
open Go Go.RowKit
def liftV : Value → A1
 | .agg cs => .agg (cs.toList.map .lit)
 | v => .one (.lit v)
theorem liftV_den {κ : Kx} {v u : Value} (h : den1 κ u (liftV v)) : u = v := by
 have key : ∀ (l vs : List Value), denVs κ vs (l.map .lit) → vs = l := by
  intro l
  induction l with
  | nil => intro vs h; exact List.eq_nil_of_length_eq_zero h.length
  | cons x l ih =>
   intro vs h
   cases vs with
   | nil => exact h.elim
   | cons y vs =>
    have h1 := h.1
    simp only [den] at h1
    rw [ih vs h.2, h1.1]
 cases v with
 | agg cs =>
  obtain ⟨vs, h1, h2⟩ := h
  rw [h1, key _ _ h2]
 | _ =>
  simp only [liftV, den1, den] at h
  exact h.1
theorem liftVs_den {κ : Kx} : ∀ {l vs : List Value}, den1s κ vs (l.map liftV) → vs = l
 | [], [], _ => rfl
 | [], _ :: _, h => h.elim
 | _ :: _, [], h => h.elim
 | x :: l, v :: vs, h => by rw [liftV_den h.1, liftVs_den h.2]
theorem acall_flat {P : Program} {f : FuncId} (hfn : fnOK P f) (vals : List Value) (v : Value) (h : ∀ w, Calls P f vals.toArray w fun e w' => e = .returned v ∧ Below w.heap.size w w') :
  ACall P f (vals.map liftV) (litA v) :=
 ⟨hfn, fun w T vs _ hd => by
  rw [liftVs_den hd]
  exact (h w).mono fun e w' ⟨he, hb⟩ => ⟨v, he, hb, denA_lit _ _⟩⟩
theorem fnOK_of {P : Program} {f : FuncId} {fn : Func} (h : P.funcs[f]? = some fn) (h2 : fn.name ≠ "runtime.NumGoroutine") (h3 : fn.body.isNone = false) : fnOK P f := ⟨fn, h, h2, h3⟩
def cRat (r : GRat) : List C := [.lit (.bool r.neg), .lit (.string r.num), .lit (.string r.den)]
theorem aSign (r : GRat) (h1 : r.num.size ≤ 500000000000) (h2 : r.den.size ≤ 500000000000) : ACall Tryz.prog 42 [.agg (cRat r)] (one (.int .i64 (qSgn (qOf r)))) :=
 acall_flat (fnOK_of Tryz.func42 (by decide) (by kernel_rfl)) [vRat r] (.int .i64 (qSgn (qOf r))) fun w => qSign_any r w h1 h2
def keepT (f : Nat → AV) : List Nat → Nat → AV
 | [] => fun _ => .dead
 | i :: l => up (keepT f l) i (f i)
def keepH (f : Hp) : List Nat → Hp
 | [] => fun _ => none
 | i :: l => up (keepH f l) i (f i)
theorem keepT_ok (f : Nat → AV) : ∀ (l : List Nat) (t : Nat), keepT f l t = f t ∨ keepT f l t = .dead
 | [], _ => .inr rfl
 | i :: l, t => by
  simp only [keepT]
  by_cases h : t = i
  ·subst h; rw [up_same]; exact .inl rfl
  rw [up_ne _ _ h]; exact keepT_ok f l t
theorem keepH_ok (f : Hp) : ∀ (l : List Nat) (nm : Nat) (B : Blk), keepH f l nm = some B → f nm = some B
 | [], _, _, h => by cases h
 | i :: l, nm, B, h => by
  simp only [keepH] at h
  by_cases hi : nm = i
  ·subst hi; rw [up_same] at h; exact h
  rw [up_ne _ _ hi] at h; exact keepH_ok f l nm B h
def keepOn (H0 f : Hp) : List Nat → Hp
 | [] => H0
 | i :: l => up (keepOn H0 f l) i (f i)
theorem keepOn_ok (H0 f : Hp) : ∀ (l : List Nat), (∀ x B, H0 x = some B → hasN l x = true ∨ f x = some B) → ∀ (nm : Nat) (B : Blk), keepOn H0 f l nm = some B → f nm = some B
 | [], h, nm, B, hk => (h nm B hk).resolve_left (by simp [hasN])
 | i :: l, h, nm, B, hk => by
  simp only [keepOn] at hk
  by_cases hi : nm = i
  ·subst hi; rw [up_same] at hk; exact hk
  rw [up_ne _ _ hi] at hk
  have key : ∀ (l' : List Nat), keepOn H0 f l' nm = some B → hasN l' nm = true → f nm = some B := by
   intro l'
   induction l' with
   | nil => intro _ h; simp [hasN] at h
   | cons j l' ih =>
    intro h1 h2
    simp only [keepOn] at h1
    by_cases hj : nm = j
    ·subst hj; rw [up_same] at h1; exact h1
    rw [up_ne _ _ hj] at h1
    simp only [hasN, Bool.or_eq_true, beq_iff_eq] at h2
    exact ih h1 (h2.resolve_left (fun e => hj e.symm))
  have key2 : ∀ (l' : List Nat), keepOn H0 f l' nm = some B → hasN l' nm = false → H0 nm = some B := by
   intro l'
   induction l' with
   | nil => intro h _; exact h
   | cons j l' ih =>
    intro h1 h2
    simp only [keepOn] at h1
    simp only [hasN, Bool.or_eq_false_iff, beq_eq_false_iff_ne, ne_eq] at h2
    rw [up_ne _ _ (fun e => h2.1 e.symm)] at h1
    exact ih h1 h2.2
  cases hh : hasN l nm with
  | true => exact key l hk hh
  | false =>
   have h3 := key2 l hk hh
   refine (h nm B h3).resolve_left ?_
   simp only [hasN, hh, Bool.or_false]
   simp only [beq_iff_eq]
   exact fun e => hi e.symm
def Wk (e : En) (k0 : Kx) (N : Nat) (st st2 : St) : Prop := ∀ a w, Rel e k0 N st a w → Rel e k0 N st2 a w
section
variable {P : Program} {e : En} {k0 : Kx} {N : Nat} {st st2 st3 : St} {Q : Exit → St → Prop}
theorem Wk.refl (st : St) : Wk e k0 N st st := fun _ _ h => h
theorem Wk.trans (h : Wk e k0 N st st2) (k : Wk e k0 N st2 st3) : Wk e k0 N st st3 := fun a w hr => k a w (h a w hr)
theorem wk_keep (l m : List Nat) : Wk e k0 N st ⟨keepT st.tm l, keepH st.H m, st.nx, st.nb⟩ := fun a w hr => rel_keep _ _ (keepT_ok _ l) (keepH_ok _ m) hr
theorem wk_on (H0 : Hp) (l m : List Nat) (h : ∀ x B, H0 x = some B → hasN m x = true ∨ st.H x = some B) : Wk e k0 N st ⟨keepT st.tm l, keepOn H0 st.H m, st.nx, st.nb⟩ := fun a w hr => rel_keep _ _ (keepT_ok _ l) (keepOn_ok _ _ m h) hr
theorem awp_on {c : Code} (H0 : Hp) (l m : List Nat) (h : ∀ x B, H0 x = some B → hasN m x = true ∨ st.H x = some B) (h2 : Awp P e k0 N c Q ⟨keepT st.tm l, keepOn H0 st.H m, st.nx, st.nb⟩) : Awp P e k0 N c Q st := awp_pre _ (wk_on H0 l m h) h2
theorem awp_wk {c : Code} (h : Wk e k0 N st st2) (h2 : Awp P e k0 N c Q st2) : Awp P e k0 N c Q st := awp_pre st2 h h2
theorem awp_keep {c : Code} (l m : List Nat) (h2 : Awp P e k0 N c Q ⟨keepT st.tm l, keepH st.H m, st.nx, st.nb⟩) : Awp P e k0 N c Q st := awp_pre _ (wk_keep l m) h2
theorem awp_nil {c : Code} (t d : Nat) (E : TypeId) (sz : Nat) (hsz : sz ≠ 0) (htm : st.tm t = .val (.one (.lit (.slice none 0 0)))) (h : Awp P e k0 N c Q ⟨up st.tm t (.val (.one (.own d st.nx 0 sz))), up st.H d (some ⟨st.nx, E, sz, 0, []⟩), st.nx + 1, st.nb⟩) : Awp P e k0 N c Q st :=
 awp_pre _ (fun _ _ hr => rel_nil E sz hsz htm hr) h
theorem awp_nilc {c : Code} (nm off d : Nat) (B : Blk) (E : TypeId) (sz : Nat) (hsz' : sz ≠ 0) (hB : st.H nm = some B) (hne : nm ≠ d) (hsz : B.sz ≠ 0) (hc : B.cs[off]? = some (.lit (.slice none 0 0)))
  (h : Awp P e k0 N c Q ⟨st.tm, up (up st.H d (some ⟨st.nx, E, sz, 0, []⟩)) nm (some { B with cs := B.cs.set off (.own d st.nx 0 sz) }), st.nx + 1, st.nb⟩) : Awp P e k0 N c Q st :=
 awp_pre _ (fun _ _ hr => rel_nil_cell E sz hsz' hB hne hsz hc hr) h
theorem awp_pub {c : Code} {t nm s n sz : Nat} {B : Blk} (htm : st.tm t = .val (.one (.own nm s n sz))) (hB : st.H nm = some B) (hsz : sz ≠ 0) (hs : B.st = s) (h : Awp P e k0 N c Q ⟨up st.tm t (.val (.one (.sh sz n B.cs))), up st.H nm none, st.nx, st.nb⟩) : Awp P e k0 N c Q st :=
 awp_pre _ (fun _ _ hr => rel_publish hB hsz hs htm hr) h
theorem awp_loopw {c : Code} (I : Nat → St → Prop) (n0 : Nat) (h0 : I n0 st) (round : ∀ n st, I n st → Awp P e k0 N c (Athen (fun st' => ∃ st2, Wk e k0 N st' st2 ∧ ∃ m, m < n ∧ I m st2) Q) st) : Awp P e k0 N (.loop c) Q st := by
 refine awp_loop (fun n st => ∃ st2, Wk e k0 N st st2 ∧ I n st2) n0 ⟨st, Wk.refl st, h0⟩ fun n st ⟨st2, hw, hI⟩ => ?_
 refine awp_wk hw (awp_mono (round n st2 hI) fun ex st' hq => ?_)
 cases ex with
 | normal =>
  obtain ⟨st3, h1, m, h2, h3⟩ := hq
  exact ⟨m, h2, st3, h1, h3⟩
 | _ => exact hq
theorem awp_cut {x y : Code} (M : St → Prop) (h : Awp P e k0 N x (Athen (fun st' => ∃ st2, Wk e k0 N st' st2 ∧ M st2) Q) st) (h2 : ∀ st2, M st2 → Awp P e k0 N y Q st2) : Awp P e k0 N (.seq x y) Q st := by
 refine awp_seq (awp_mono h fun ex st' hq => ?_)
 cases ex with
 | normal =>
  obtain ⟨st2, h1, h3⟩ := hq
  exact awp_wk h1 (h2 st2 h3)
 | _ => exact hq
end
def mkT : List (Nat × AV) → Nat → AV
 | [] => fun _ => .dead
 | x :: l => up (mkT l) x.1 x.2
def mkOn (H0 : Hp) : List (Nat × Blk) → Hp
 | [] => H0
 | x :: l => up (mkOn H0 l) x.1 (some x.2)
def mkH : List (Nat × Blk) → Hp
 | [] => fun _ => none
 | x :: l => up (mkH l) x.1 (some x.2)
theorem inK_i64 (n : Int) : inK .i64 n ↔ -9223372036854775808 ≤ n ∧ n ≤ 9223372036854775807 := by
 have h1 : IntKind.i64.min = -9223372036854775808 := by decide
 have h2 : IntKind.i64.max = 9223372036854775807 := by decide
 unfold inK; rw [h1, h2]
theorem repl_zero (z : List C) : repl 0 z = [] := rfl
theorem repl_succ (n : Nat) (z : List C) : repl (n + 1) z = z ++ repl n z := by simp [repl, List.replicate_succ]
theorem spl_nil (cs : List C) (off : Nat) : spl cs off [] = cs := by simp [spl]
theorem spl_cons0 (c d : C) (cs ds : List C) : spl (c :: cs) 0 (d :: ds) = d :: spl cs 0 ds := by simp [spl]
theorem spl_succ (c : C) (cs ds : List C) (n : Nat) : spl (c :: cs) (n + 1) ds = c :: spl cs n ds := by
 simp only [spl, List.take_succ_cons, List.cons_append]
 rw [show n + 1 + ds.length = (n + ds.length) + 1 by omega, List.drop_succ_cons]
def SS := And.intro @finOr_some (And.intro @finOr_none (And.intro @finSl_some (And.intro @finSl_none (And.intro @orS_some (And.intro @orS_none (And.intro @effZ.eq_def (And.intro @effSl.eq_def (And.intro @stillNil.eq_def (And.intro @stillCap.eq_def (And.intro @stillMM.eq_def (And.intro @gd.eq_def (And.intro @stepA.eq_def (And.intro @eff.eq_def (And.intro @ev.eq_def (And.intro @litA.eq_def (And.intro @cellsOf.eq_def (And.intro @A1.cells.eq_def (And.intro @stillB.eq_def (And.intro @still.eq_def (And.intro @stillVal.eq_def (And.intro @stillAddr.eq_def (And.intro @stillCall.eq_def (And.intro @lenA.eq_def (And.intro @bnd.eq_def (And.intro @cut.eq_def (And.intro @cut1.eq_def (And.intro @snaps.eq_1 (And.intro @snaps.eq_2 (And.intro @snap1.eq_def (And.intro @snapCs.eq_1 (And.intro @snapCs.eq_2 (And.intro @snapC.eq_def (And.intro @pureCs.eq_1 (And.intro @pureCs.eq_2 (And.intro @pureC.eq_1 (And.intro @pureC.eq_2 (And.intro @pureC.eq_3 (And.intro @pureC.eq_4 (And.intro @abin.eq_def (And.intro @allA.eq_def (And.intro @pure1.eq_def (And.intro @flat1.eq_def (And.intro @Ares.eq_def (And.intro @resL.eq_1 (And.intro @resL.eq_2 (And.intro @resV.eq_def (And.intro @tupA.eq_def (And.intro @putO.eq_def (And.intro @ini.eq_def (And.intro @iniT.eq_1 (And.intro @iniT.eq_2 (And.intro @srcA.eq_def (And.intro @fillC.eq_1 (And.intro @fillC.eq_2 (And.intro @stillBuild.eq_def (And.intro @litsOf.eq_1 (And.intro @litsOf.eq_2 (And.intro @keepT.eq_1 (And.intro @keepT.eq_2 (And.intro @keepH.eq_1 (And.intro @keepH.eq_2 (And.intro @flatC.eq_def (And.intro @mkT.eq_1 (And.intro @mkT.eq_2 (And.intro @mkH.eq_1 (And.intro @mkH.eq_2 (And.intro @inK_i64 (And.intro @repl_zero (And.intro @repl_succ (And.intro @spl_nil (And.intro @spl_cons0 (And.intro @spl_succ (And.intro @AL_nil (And.intro @AL_cons (And.intro @AT_nil (And.intro @AT_take (And.intro @AT_eff (And.intro @ALg_t (And.intro @ALg_f (And.intro @ATt_t (And.intro @ATt_f (And.intro @ATe_t (And.intro @ATe_f (And.intro @fin1_some (And.intro @fin2_some (And.intro @fin0_some (And.intro @SchO.mk.eq_1 (And.intro @SchO.mk.eq_2 (And.intro @SchO.mk.eq_3 (And.intro @keepOn.eq_1 (And.intro @keepOn.eq_2 (And.intro @mkOn.eq_1 (And.intro @mkOn.eq_2 (And.intro @ArI_normal (And.intro @ArI_ret (And.intro @ArI0.eq_def (And.intro @resI.eq_1 (And.intro @resI.eq_2 (And.intro @stillLook.eq_def (And.intro @keyV.eq_def (And.intro @lookA.eq_def (And.intro @effMk.eq_def (And.intro @effPut.eq_def (And.intro @hasN.eq_1 (And.intro @hasN.eq_2 (And.intro @finX_t (And.intro @finX_f (And.intro @finF_some (And.intro @finI_some (And.intro @fnOf.eq_def (And.intro @raws.eq_1 (And.intro @raws.eq_2 (And.intro @finC_some (And.intro @ite_tt (And.intro @ite_ft (And.intro @AT_two (And.intro @beq_ft (And.intro @beq_tf (And.intro @beq_ff (And.intro @beq_tt (And.intro @up_apply (And.intro @Athen_normal (And.intro @Athen_exit (And.intro @Athen_ret (And.intro @Ablock_normal (And.intro @Ablock_ret (And.intro @Ablock_exit (And.intro @Aret_normal (And.intro @Aret_ret (And.intro @Option.bind_some.{0,0} (And.intro @Option.bind_none.{0,0} (And.intro @Option.map_some.{0,0} (And.intro @Option.map_none.{0,0} (And.intro @List.toList_toArray.{0} (And.intro @List.map_cons.{0,0} (And.intro @List.map_nil.{0,0} (And.intro @List.drop_succ_cons.{0} (And.intro @List.drop_zero.{0} (And.intro @List.take_succ_cons.{0} (And.intro @List.take_zero.{0} (And.intro @List.length_cons.{0} (And.intro @List.length_nil.{0} (And.intro @List.getElem?_cons_zero.{0} (And.intro @List.getElem?_cons_succ.{0} (And.intro @List.getElem?_toArray.{0} (And.intro @true_and (And.intro @and_true (And.intro @Bool.or_false (And.intro @Bool.false_or (And.intro @Bool.and_true (And.intro @decide_true (And.intro @decide_false (And.intro @not_true_eq_false (And.intro @not_false_eq_true (And.intro @Nat.zero_add (And.intro @true_or (And.intro @or_true (And.intro @exists_eq_left'.{1} (And.intro @Option.some.injEq.{0} (And.intro @Bool.true_and (And.intro @Bool.false_and (And.intro @Bool.and_self (And.intro @Bool.not_true (And.intro @Bool.not_false (And.intro @List.all_cons.{0} (And.intro @List.all_nil.{0} (And.intro @List.set_cons_zero.{0} (And.intro @List.set_cons_succ.{0} (And.intro @if_true.{1} (And.intro @if_false.{1} (And.intro @Nat.add_zero (And.intro @Nat.zero_mul (And.intro @Nat.mul_one (And.intro @Nat.one_mul (And.intro @List.nil_append.{0} (And.intro @List.cons_append.{0} (And.intro @List.append_nil.{0} (@Int.toNat_natCast))))))))))))))))))))))))))))))))))))))))))))))))))))))))))))))))))))))))))))))))))))))))))))))))))))))))))))))))))))))))))))))))))))))))))))))))))))))))))))))))))))))))))))))))))
def flat {α : Type} (f : α → List C) (l : List α) : List C := (l.map f).flatten
theorem flat_nil {α : Type} (f : α → List C) : flat f [] = [] := rfl
theorem flat_cons {α : Type} (f : α → List C) (a : α) (l : List α) : flat f (a :: l) = f a ++ flat f l := by simp [flat]
theorem flat_append {α : Type} (f : α → List C) (l m : List α) : flat f (l ++ m) = flat f l ++ flat f m := by simp [flat]
theorem flat_snoc {α : Type} (f : α → List C) (l : List α) (a : α) : flat f (l ++ [a]) = flat f l ++ f a := by simp [flat]
theorem flat_length {α : Type} {f : α → List C} {sz : Nat} (hf : ∀ a, (f a).length = sz) : ∀ l : List α, (flat f l).length = l.length * sz
 | [] => by simp [flat]
 | a :: l => by rw [flat_cons, List.length_append, hf, flat_length hf l, List.length_cons, Nat.succ_mul, Nat.add_comm]
theorem flat_drop {α : Type} {f : α → List C} {sz : Nat} (hf : ∀ a, (f a).length = sz) : ∀ (l : List α) (k : Nat), (flat f l).drop (k * sz) = flat f (l.drop k)
 | l, 0 => by simp
 | [], k + 1 => by simp [flat]
 | a :: l, k + 1 => by
  rw [flat_cons, Nat.succ_mul, Nat.add_comm, ← List.drop_drop, List.drop_left' (hf a), flat_drop hf l k, List.drop_succ_cons]
theorem flat_at {α : Type} {f : α → List C} {sz : Nat} (hf : ∀ a, (f a).length = sz) (l : List α) (k : Nat) (h : k < l.length) : (flat f l).drop (k * sz) = f l[k] ++ flat f (l.drop (k + 1)) := by
 rw [flat_drop hf, List.drop_eq_getElem_cons h, flat_cons]
theorem flat_take {α : Type} {f : α → List C} {sz : Nat} (hf : ∀ a, (f a).length = sz) (l : List α) (k : Nat) : (flat f l).take (k * sz) = flat f (l.take k) := by
 rcases Nat.lt_or_ge k l.length with h | h
 ·have h1 : flat f l = flat f (l.take k) ++ flat f (l.drop k) := by rw [← flat_append, List.take_append_drop]
  rw [h1, List.take_left']
  rw [flat_length hf, List.length_take, Nat.min_eq_left (by omega)]
 rw [List.take_of_length_le h, List.take_of_length_le]
 rw [flat_length hf]; exact Nat.mul_le_mul_right _ h
theorem pure_append (a b : List C) : pureCs (a ++ b) = (pureCs a && pureCs b) := by
 induction a with
 | nil => simp [pureCs]
 | cons c a ih => simp [pureCs, ih, Bool.and_assoc]
theorem flat_pure {α : Type} {f : α → List C} (hf : ∀ a, pureCs (f a) = true) : ∀ l : List α, pureCs (flat f l) = true
 | [] => rfl
 | a :: l => by rw [flat_cons, pure_append, hf, flat_pure hf l]; rfl
theorem spl_mid {α : Type} (a b c d : List α) (h : b.length = d.length) : spl (a ++ (b ++ c)) a.length d = a ++ (d ++ c) := by
 simp [spl, ← h, List.drop_append]
section
variable {P : Program} {e : En} {k0 : Kx} {N : Nat} {st : St} {Q : Exit → St → Prop} {ops : Array Oper}
def lead (zP : Program) (ze : En) (zk : Kx) (zN : Nat) : Nat → Code → (Exit → St → Prop) → Code × (Exit → St → Prop)
 | n + 1, .seq x y, zQ => lead zP ze zk zN n x (Athen (Awp zP ze zk zN y zQ) zQ)
 | n + 1, .block i c, zQ => lead zP ze zk zN n c (Ablock i zQ)
 | _, c, zQ => (c, zQ)
theorem lead_ok (n : Nat) : ∀ (c : Code) (Q : Exit → St → Prop), Awp P e k0 N (lead P e k0 N n c Q).1 (lead P e k0 N n c Q).2 st → Awp P e k0 N c Q st := by
 induction n with
 | zero => intro c Q h; cases c <;> exact h
 | succ n ih =>
  intro c Q h
  cases c with
  | seq x y => exact awp_seq (ih _ _ h)
  | block i c => exact awp_block (ih _ _ h)
  | _ => exact h
theorem awL {c x : Code} {Q' : Exit → St → Prop} (hc : lead P e k0 N 99 c Q = (x, Q')) (h : Awp P e k0 N x Q' st) : Awp P e k0 N c Q st := lead_ok 99 c Q (by rw [hc]; exact h)
theorem awR (I : List Nat) {id : Nat} {l : List Oper} {c : Code} {Q' : Exit → St → Prop} (gs : List (Option (Nat × Bool))) (h : AL P N I (Q' .normal) l gs st) (hc : lead P e k0 N 99 c Q = (.region id ops false, Q') := by rfl) (hl : ops.toList = l := by rfl) (hg : guardsOf ops = gs := by kernel_rfl) (hN : decide (N < 1000000) = true := by decide) : Awp P e k0 N c Q st := awL hc (awp_region I hl hg hN h)
theorem awT {c : Operand} {b x y : Code} {Q' : Exit → St → Prop} (h : Awp P e k0 N x Q' st) (hb : lead P e k0 N 99 b Q = (.cond c x y, Q') := by rfl) (hc : ev st c = .val (.one (.lit (.bool true))) := by rfl) : Awp P e k0 N b Q st := awL hb (awp_cond true hc (fun _ => h) (fun h => by cases h))
theorem awF {c : Operand} {b x y : Code} {Q' : Exit → St → Prop} (h : Awp P e k0 N y Q' st) (hb : lead P e k0 N 99 b Q = (.cond c x y, Q') := by rfl) (hc : ev st c = .val (.one (.lit (.bool false))) := by rfl) : Awp P e k0 N b Q st := awL hb (awp_cond false hc (fun h => by cases h) (fun _ => h))
theorem awK {c : Code} {Q' : Exit → St → Prop} (h : Q' .normal st) (hb : lead P e k0 N 99 c Q = (.skip, Q') := by rfl) : Awp P e k0 N c Q st := awL hb (awp_skip h)
theorem awX {c : Code} {Q' : Exit → St → Prop} (h : Q' .ret st) (hb : lead P e k0 N 99 c Q = (.ret, Q') := by rfl) : Awp P e k0 N c Q st := awL hb (awp_ret h)
theorem awQ {c : Code} {i : Nat} {Q' : Exit → St → Prop} (h : Q' (.exit i) st) (hb : lead P e k0 N 99 c Q = (.exit i, Q') := by rfl) : Awp P e k0 N c Q st := awL hb (awp_exit h)
theorem ob {p q : Prop} (hq : q) (hp : p := by first|omega|(simp only [List.length_cons];omega)|exact ⟨⟨by omega,by omega⟩,rfl⟩|rfl) : p ∧ q := ⟨hp, hq⟩
def scq : List Nat → Sch → Sch
 | [], s => s
 | n :: l, s => .cons (n / 2) (n % 2 == 1) (scq l s)
def ALn (P : Program) (N : Nat) (Q : St → Prop) : List Oper → St → Prop
 | [], st => Q st
 | o :: os, st => stepA P N [] st o (ALn P N Q os)
theorem ALn_nil {Q : St → Prop} : ALn P N Q [] st = Q st := rfl
theorem ALn_cons {Q : St → Prop} {o : Oper} {os : List Oper} : ALn P N Q (o :: os) st = stepA P N [] st o (ALn P N Q os) := rfl
theorem ALn_eq {Q : St → Prop} : ∀ l : List Oper, ALn P N Q l = AL P N [] Q l (l.map fun _ => none)
 | [] => by funext st; rfl
 | o :: os => by
  funext st
  rw [ALn_cons, ALn_eq os]
  rfl
theorem allnone {α β : Type} : ∀ (xs : List (Option β)) (l : List α), xs.all Option.isNone = true → l.length = xs.length → xs = l.map fun _ => (none : Option β)
 | [], [], _, _ => rfl
 | x :: xs, a :: l, h, hl => by
  simp only [List.all_cons, Bool.and_eq_true, Option.isNone_iff_eq_none] at h
  obtain ⟨rfl, h2⟩ := h
  have e := allnone xs l h2 (by simpa using hl)
  rw [List.map_cons]
  exact congrArg _ e
 | [], _ :: _, _, hl => by simp at hl
 | _ :: _, [], _, hl => by simp at hl
theorem awN {id : Nat} {l : List Oper} {c : Code} {Q' : Exit → St → Prop} (h : ALn P N (Q' .normal) l st) (hc : lead P e k0 N 99 c Q = (.region id ops false, Q') := by rfl) (hl : ops.toList = l := by rfl) (hg : (guardsOf ops).all Option.isNone = true := by kernel_rfl) (hN : decide (N < 1000000) = true := by decide) : Awp P e k0 N c Q st :=
 awL hc (awp_region [] hl (allnone (guardsOf ops) l hg (by rw [← hl]; simp [guardsOf])) hN (by rw [← ALn_eq]; exact h))
def scT : Nat → Nat → Sch → Sch
 | _, 0, s => s
 | i, n + 1, s => .cons i true (scT (i + 1) n s)
def zS := And.intro (And.intro @ALn_nil @ALn_cons) (And.intro SS @ne_eq.{1})
theorem awD (s : Sch) (gs : List (Option (Nat × Bool))) {id : Nat} {r : SchO} {c : Code} {Q' : Exit → St → Prop} (h : AT P N (Q' .normal) r st) (hc : lead P e k0 N 99 c Q = (.region id ops true, Q') := by rfl) (hm : P.follows .mixedOrders = true := by kernel_rfl)
 (hB : (Region.noSelect ops && decide (s.len = ops.size) && schedP .any ops (keepsF ops) s (Array.replicate ops.size false)) = true := by kernel_rfl) (hg : guardsOf ops = gs := by kernel_rfl) (hr : SchO.mk ops gs s = some r := by simp only [scq.eq_1, scq.eq_2, scT.eq_1, scT.eq_2, (id zS), seval]; rfl) (hN : decide (N < 1000000) = true := by decide) : Awp P e k0 N c Q st := awL hc (awp_draws hm s hB hg hr hN h)
theorem awS {zP : Program} {ze : En} {zk : Kx} {zN : Nat} {zs : St} {zQ : Exit → St → Prop} {zx zy : Code} (zh : Awp zP ze zk zN zx (Athen (Awp zP ze zk zN zy zQ) zQ) zs) : Awp zP ze zk zN (.seq zx zy) zQ zs := awp_seq zh
theorem awB {zP : Program} {ze : En} {zk : Kx} {zN : Nat} {zs : St} {zQ : Exit → St → Prop} {zi : Nat} {zc : Code} (zh : Awp zP ze zk zN zc (Ablock zi zQ) zs) : Awp zP ze zk zN (.block zi zc) zQ zs := awp_block zh
end
theorem tf0 : elT Tryz.prog 47 = some (46, 5, 56) := by kernel_rfl
theorem tf1 : arT Tryz.prog 48 = none := by kernel_rfl
theorem tf2 : elT Tryz.prog 48 = some (47, 1, 24) := by kernel_rfl
theorem tf3 : ldT Tryz.prog 47 = some (false, 1) := by kernel_rfl
theorem tf4 : (Tryz.prog).underlying 3 = some (.int .i64) := by kernel_rfl
theorem tf5 : zrT Tryz.prog 46 = some [.int .i64 0, .bool false, .bool false, .string bEmpty, .string bEmpty] := by kernel_rfl
theorem tf6 : arT Tryz.prog 47 = none := by kernel_rfl
theorem tf7 : elT Tryz.prog 58 = some (3, 1, 8) := by kernel_rfl
theorem tf8 : foT Tryz.prog 50 0 = some (0, 48) := by kernel_rfl
theorem tf9 : foT Tryz.prog 46 0 = some (0, 3) := by kernel_rfl
theorem tf10 : ldT Tryz.prog 48 = some (false, 1) := by kernel_rfl
theorem tf11 : ldT Tryz.prog 46 = some (true, 5) := by kernel_rfl
theorem tf12 : ldT Tryz.prog 3 = some (false, 1) := by kernel_rfl
theorem tf13 : zrT Tryz.prog 3 = some [.int .i64 0] := by kernel_rfl
theorem tf14 : arT Tryz.prog 133 = none := by kernel_rfl
theorem tf15 : elT Tryz.prog 133 = some (4, 1, 1) := by kernel_rfl
theorem tf16 : foT Tryz.prog 46 1 = some (1, 4) := by kernel_rfl
theorem tf17 : foT Tryz.prog 46 2 = some (2, 32) := by kernel_rfl
theorem tf18 : ldT Tryz.prog 32 = some (true, 3) := by kernel_rfl
theorem tf19 : ldT Tryz.prog 4 = some (false, 1) := by kernel_rfl
theorem tf20 : arT Tryz.prog 34 = none := by kernel_rfl
theorem tf21 : arT Tryz.prog 33 = none := by kernel_rfl
theorem tf22 : arT Tryz.prog 58 = none := by kernel_rfl
theorem tf23 : elT Tryz.prog 34 = some (50, 1, 24) := by kernel_rfl
theorem tf24 : elT Tryz.prog 33 = some (38, 5, 56) := by kernel_rfl
theorem tf25 : foT Tryz.prog 38 0 = some (0, 3) := by kernel_rfl
theorem tf26 : foT Tryz.prog 38 1 = some (1, 3) := by kernel_rfl
theorem tf27 : foT Tryz.prog 38 2 = some (2, 32) := by kernel_rfl
theorem tf28 : foT Tryz.prog 36 0 = some (0, 32) := by kernel_rfl
theorem tf29 : foT Tryz.prog 36 1 = some (3, 33) := by kernel_rfl
theorem tf30 : foT Tryz.prog 36 2 = some (4, 34) := by kernel_rfl
theorem tf31 : ldT Tryz.prog 34 = some (false, 1) := by kernel_rfl
theorem tf32 : ldT Tryz.prog 33 = some (false, 1) := by kernel_rfl
theorem tf33 : ldT Tryz.prog 50 = some (true, 1) := by kernel_rfl
theorem tf34 : ldT Tryz.prog 38 = some (true, 5) := by kernel_rfl
theorem tf35 : zrT Tryz.prog 50 = some [.slice none 0 0] := by kernel_rfl
theorem tf36 : zrT Tryz.prog 38 = some [.int .i64 0, .int .i64 0, .bool false, .string bEmpty, .string bEmpty] := by kernel_rfl
theorem tf37 : zrT Tryz.prog 4 = some [.bool false] := by kernel_rfl
theorem tf38 : plT Tryz.prog 32 = some [(0, 1), (1, 1), (2, 1)] := by kernel_rfl
theorem tf39 : zrT Tryz.prog 32 = some [.bool false, .string bEmpty, .string bEmpty] := by kernel_rfl
theorem tf40 : foT Tryz.prog 32 0 = some (0, 4) := by kernel_rfl
theorem tf41 : foT Tryz.prog 32 1 = some (1, 9) := by kernel_rfl
theorem tf42 : ldT Tryz.prog 9 = some (false, 1) := by kernel_rfl
theorem tf43 : (Tryz.prog).underlying 4 = some .bool := by kernel_rfl
theorem tf44 : elT Tryz.prog 188 = some (230, 4, 48) := by kernel_rfl
theorem tf45 : foT Tryz.prog 190 0 = some (0, 188) := by kernel_rfl
theorem tf46 : foT Tryz.prog 190 1 = some (1, 32) := by kernel_rfl
theorem tf47 : ldT Tryz.prog 188 = some (false, 1) := by kernel_rfl
theorem tf48 : plT Tryz.prog 230 = some [(0, 1), (1, 3)] := by kernel_rfl
theorem tf49 : zrT Tryz.prog 230 = some [.int .i64 0, .bool false, .string bEmpty, .string bEmpty] := by kernel_rfl
theorem tf50 : arT Tryz.prog 79 = none := by kernel_rfl
theorem tf51 : elT Tryz.prog 79 = some (32, 3, 40) := by kernel_rfl
theorem tf52 : foT Tryz.prog 200 0 = some (0, 79) := by kernel_rfl
theorem tf53 : foT Tryz.prog 200 1 = some (1, 32) := by kernel_rfl
theorem tf54 : ldT Tryz.prog 79 = some (false, 1) := by kernel_rfl
theorem tf55 : arT Tryz.prog 138 = none := by kernel_rfl
theorem tf56 : elT Tryz.prog 138 = some (190, 4, 64) := by kernel_rfl
theorem tf57 : ldT Tryz.prog 190 = some (true, 4) := by kernel_rfl
theorem tf58 : zrT Tryz.prog 190 = some [.slice none 0 0, .bool false, .string bEmpty, .string bEmpty] := by kernel_rfl
theorem tf59 : arT Tryz.prog 188 = none := by kernel_rfl
theorem tf60 : foT Tryz.prog 230 0 = some (0, 3) := by kernel_rfl
theorem tf61 : foT Tryz.prog 230 1 = some (1, 32) := by kernel_rfl
theorem tf62 : ldT Tryz.prog 230 = some (true, 4) := by kernel_rfl
theorem tf63 : foT Tryz.prog 193 0 = some (0, 58) := by kernel_rfl
theorem tf64 : ldT Tryz.prog 58 = some (false, 1) := by kernel_rfl
theorem tf65 : foT Tryz.prog 193 1 = some (1, 138) := by kernel_rfl
theorem tf66 : ldT Tryz.prog 138 = some (false, 1) := by kernel_rfl
theorem tf67 : ldT Tryz.prog 193 = some (true, 2) := by kernel_rfl
theorem tf68 : plT Tryz.prog 193 = some [(0, 1), (1, 1)] := by kernel_rfl
theorem tf69 : zrT Tryz.prog 193 = some [.slice none 0 0, .slice none 0 0] := by kernel_rfl
theorem tf70 : elT Tryz.prog 139 = some (193, 2, 48) := by kernel_rfl
theorem tf71 : foT Tryz.prog 141 1 = some (1, 138) := by kernel_rfl
theorem tf72 : foT Tryz.prog 141 2 = some (2, 139) := by kernel_rfl
theorem tf73 : foT Tryz.prog 141 3 = some (3, 32) := by kernel_rfl
theorem tf74 : ldT Tryz.prog 139 = some (false, 1) := by kernel_rfl
theorem tf75 : ldT Tryz.prog 36 = some (true, 5) := by kernel_rfl
theorem tf76 : ldT Tryz.prog 141 = some (true, 6) := by kernel_rfl
theorem tf77 : plT Tryz.prog 141 = some [(0, 1), (1, 1), (2, 1), (3, 3)] := by kernel_rfl
theorem tf78 : zrT Tryz.prog 141 = some [.int .i64 0, .slice none 0 0, .slice none 0 0, .bool false, .string bEmpty, .string bEmpty] := by kernel_rfl
theorem tf79 : foT Tryz.prog 141 0 = some (0, 3) := by kernel_rfl
theorem tf80 : plT Tryz.prog 200 = some [(0, 1), (1, 3)] := by kernel_rfl
theorem tf81 : zrT Tryz.prog 200 = some [.slice none 0 0, .bool false, .string bEmpty, .string bEmpty] := by kernel_rfl
theorem tf82 : arT Tryz.prog 139 = none := by kernel_rfl
theorem tf83 : plT Tryz.prog 50 = some [(0, 1)] := by kernel_rfl
theorem tf84 : plT Tryz.prog 38 = some [(0, 1), (1, 1), (2, 3)] := by kernel_rfl
theorem tf85 : plT Tryz.prog 36 = some [(0, 3), (3, 1), (4, 1)] := by kernel_rfl
theorem tf86 : zrT Tryz.prog 36 = some [.bool false, .string bEmpty, .string bEmpty, .slice none 0 0, .slice none 0 0] := by kernel_rfl
theorem tf87 : plT Tryz.prog 46 = some [(0, 1), (1, 1), (2, 3)] := by kernel_rfl
theorem tf88 : zrT Tryz.prog 47 = some [.slice none 0 0] := by kernel_rfl
theorem tf89 : (Tryz.prog).underlying 5 = some (.int .u8) := by kernel_rfl
theorem tf90 : arT Tryz.prog 26 = none := by kernel_rfl
theorem tf91 : arT Tryz.prog 40 = none := by kernel_rfl
theorem tf92 : elT Tryz.prog 26 = some (42, 4, 64) := by kernel_rfl
theorem tf93 : elT Tryz.prog 40 = some (44, 2, 16) := by kernel_rfl
theorem tf94 : foT Tryz.prog 42 1 = some (3, 40) := by kernel_rfl
theorem tf95 : foT Tryz.prog 28 1 = some (1, 26) := by kernel_rfl
theorem tf96 : foT Tryz.prog 44 0 = some (0, 3) := by kernel_rfl
theorem tf97 : foT Tryz.prog 44 1 = some (1, 3) := by kernel_rfl
theorem tf98 : ldT Tryz.prog 26 = some (false, 1) := by kernel_rfl
theorem tf99 : ldT Tryz.prog 40 = some (false, 1) := by kernel_rfl
theorem tf100 : ldT Tryz.prog 42 = some (true, 4) := by kernel_rfl
theorem tf101 : ldT Tryz.prog 44 = some (true, 2) := by kernel_rfl
theorem tf102 : zrT Tryz.prog 42 = some [.bool false, .string bEmpty, .string bEmpty, .slice none 0 0] := by kernel_rfl
theorem tf103 : zrT Tryz.prog 44 = some [.int .i64 0, .int .i64 0] := by kernel_rfl
theorem tf104 : arT Tryz.prog 98 = some (3, 57, 1) := by kernel_rfl
theorem tf105 : ldT Tryz.prog 57 = some (false, 1) := by kernel_rfl
theorem tf106 : elT Tryz.prog 98 = none := by kernel_rfl
theorem tf107 : (Tryz.prog).underlying 57 = some (.int .u16) := by kernel_rfl
theorem tf108 : (Tryz.prog).underlying 115 = some (.int .u64) := by kernel_rfl
theorem tf109 : arT Tryz.prog 25 = none := by kernel_rfl
theorem tf110 : elT Tryz.prog 25 = some (36, 5, 88) := by kernel_rfl
theorem tf111 : foT Tryz.prog 28 0 = some (0, 25) := by kernel_rfl
theorem tf112 : ldT Tryz.prog 25 = some (false, 1) := by kernel_rfl
theorem tf113 : ldT Tryz.prog 28 = some (true, 2) := by kernel_rfl
theorem tf114 : plT Tryz.prog 42 = some [(0, 3), (3, 1)] := by kernel_rfl
theorem tf115 : plT Tryz.prog 44 = some [(0, 1), (1, 1)] := by kernel_rfl
theorem tf116 : arT Tryz.prog 97 = some (4, 57, 1) := by kernel_rfl
theorem tf117 : arT Tryz.prog 23 = none := by kernel_rfl
theorem tf118 : arT Tryz.prog 22 = none := by kernel_rfl
theorem tf119 : arT Tryz.prog 56 = none := by kernel_rfl
theorem tf120 : elT Tryz.prog 23 = some (98, 3, 6) := by kernel_rfl
theorem tf121 : elT Tryz.prog 22 = some (97, 4, 8) := by kernel_rfl
theorem tf122 : elT Tryz.prog 56 = some (57, 1, 2) := by kernel_rfl
theorem tf123 : ldT Tryz.prog 98 = some (true, 3) := by kernel_rfl
theorem tf124 : ldT Tryz.prog 97 = some (true, 4) := by kernel_rfl
theorem tf125 : elT Tryz.prog 97 = none := by kernel_rfl
theorem tf126 : plT Tryz.prog 28 = some [(0, 1), (1, 1)] := by kernel_rfl
theorem tf127 : zrT Tryz.prog 98 = some [.int .u16 (0), .int .u16 (0), .int .u16 (0)] := by kernel_rfl
theorem tf128 : zrT Tryz.prog 97 = some [.int .u16 (0), .int .u16 (0), .int .u16 (0), .int .u16 (0)] := by kernel_rfl
theorem tf129 : zrT Tryz.prog 28 = some [.slice none 0 0, .slice none 0 0] := by kernel_rfl
theorem tf130 : zrT Tryz.prog 57 = some [.int .u16 (0)] := by kernel_rfl
theorem tf131 : foT Tryz.prog 42 0 = some (0, 32) := by kernel_rfl
theorem tf132 : mpT Tryz.prog 103 = some (44, .bool false) := by kernel_rfl
theorem tf133 : arT Tryz.prog 107 = none := by kernel_rfl
theorem tf134 : elT Tryz.prog 107 = some (121, 4, 48) := by kernel_rfl
theorem tf135 : foT Tryz.prog 109 1 = some (2, 107) := by kernel_rfl
theorem tf136 : foT Tryz.prog 121 0 = some (0, 32) := by kernel_rfl
theorem tf137 : foT Tryz.prog 121 1 = some (3, 3) := by kernel_rfl
theorem tf138 : ldT Tryz.prog 107 = some (false, 1) := by kernel_rfl
theorem tf139 : ldT Tryz.prog 121 = some (true, 4) := by kernel_rfl
theorem tf140 : zrT Tryz.prog 121 = some [.bool false, .string bEmpty, .string bEmpty, .int .i64 0] := by kernel_rfl
theorem tf141 : arT Tryz.prog 59 = none := by kernel_rfl
theorem tf142 : elT Tryz.prog 59 = some (109, 3, 40) := by kernel_rfl
theorem tf143 : ldT Tryz.prog 109 = some (true, 3) := by kernel_rfl
theorem tf144 : zrT Tryz.prog 109 = some [.int .i64 0, .int .i64 0, .slice none 0 0] := by kernel_rfl
theorem tf145 : foT Tryz.prog 109 0 = some (0, 44) := by kernel_rfl
theorem tf146 : plT Tryz.prog 121 = some [(0, 3), (3, 1)] := by kernel_rfl
theorem tf147 : plT Tryz.prog 109 = some [(0, 2), (2, 1)] := by kernel_rfl
end Go.Proofs.YtokmkopihhnggaaGreatDoor
