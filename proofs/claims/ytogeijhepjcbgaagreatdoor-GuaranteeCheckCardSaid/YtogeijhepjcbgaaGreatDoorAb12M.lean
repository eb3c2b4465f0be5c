/- The abstract machine: states kept small, loops and joins over them; rows of records. No program in sight. -/
import Derived.Test.YtogeijhepjcbgaaGreatDoorAb9M
import Derived.Test.YtogeijhepjcbgaaGreatDoorBaseM
import Derived.Test.YtogeijhepjcbgaaGreatDoorQ1M
import Derived.Test.YtogeijhepjcbgaaGreatDoorPlusM
import Derived.Test.YtogeijhepjcbgaaGreatDoorSm2M
import Derived.ProofKit
import Derived.OpenShut
import Derived.Deep.Slices
import Derived.Test.YtogeijhepjcbgaaGreatDoorProg
import Derived.Deep.Strs
set_option linter.unusedVariables false
set_option linter.unusedSimpArgs false
set_option linter.defProp false
set_option linter.unnecessarySimpa false
set_option linter.unusedSectionVars false
section
/- The abstract machine: states kept small, loops and joins over them; rows of records. No program in sight. -/
namespace Go.Proofs.YtogeijhepjcbgaaGreatDoor
open Go Go.RowKit

def keepT (f : Nat → AV) : List Nat → Nat → AV
  | [] => fun _ => .dead
  | i :: l => up (keepT f l) i (f i)
def keepH (f : Hp) : List Nat → Hp
  | [] => fun _ => none
  | i :: l => up (keepH f l) i (f i)
theorem keepT_ok (f : Nat → AV) : ∀ (l : List Nat) (t : Nat), keepT f l t = f t ∨ keepT f l t = .dead
  | [], _ => .inr rfl
  | i :: l, t => by
    simp only [keepT]
    by_cases h : t = i
    · subst h; rw [up_same]; exact .inl rfl
    · rw [up_ne _ _ h]; exact keepT_ok f l t
theorem keepH_ok (f : Hp) : ∀ (l : List Nat) (nm : Nat) (B : Blk), keepH f l nm = some B → f nm = some B
  | [], _, _, h => by cases h
  | i :: l, nm, B, h => by
    simp only [keepH] at h
    by_cases hi : nm = i
    · subst hi; rw [up_same] at h; exact h
    · rw [up_ne _ _ hi] at h; exact keepH_ok f l nm B h

/-- The blocks of H0, and of the state those that are named. -/
def keepOn (H0 f : Hp) : List Nat → Hp
  | [] => H0
  | i :: l => up (keepOn H0 f l) i (f i)
theorem keepOn_ok (H0 f : Hp) : ∀ (l : List Nat), (∀ x B, H0 x = some B → hasN l x = true ∨ f x = some B) → ∀ (nm : Nat) (B : Blk), keepOn H0 f l nm = some B → f nm = some B
  | [], h, nm, B, hk => (h nm B hk).resolve_left (by simp [hasN])
  | i :: l, h, nm, B, hk => by
    simp only [keepOn] at hk
    by_cases hi : nm = i
    · subst hi; rw [up_same] at hk; exact hk
    · rw [up_ne _ _ hi] at hk
      have key : ∀ (l' : List Nat), keepOn H0 f l' nm = some B → hasN l' nm = true → f nm = some B := by
        intro l'
        induction l' with
        | nil => intro _ h; simp [hasN] at h
        | cons j l' ih =>
          intro h1 h2
          simp only [keepOn] at h1
          by_cases hj : nm = j
          · subst hj; rw [up_same] at h1; exact h1
          · rw [up_ne _ _ hj] at h1
            simp only [hasN, Bool.or_eq_true, beq_iff_eq] at h2
            exact ih h1 (h2.resolve_left (fun e => hj e.symm))
      have key2 : ∀ (l' : List Nat), keepOn H0 f l' nm = some B → hasN l' nm = false → H0 nm = some B := by
        intro l'
        induction l' with
        | nil => intro h _; exact h
        | cons j l' ih =>
          intro h1 h2
          simp only [keepOn] at h1
          simp only [hasN, Bool.or_eq_false_iff, beq_eq_false_iff_ne, ne_eq] at h2
          rw [up_ne _ _ (fun e => h2.1 e.symm)] at h1
          exact ih h1 h2.2
      cases hh : hasN l nm with
      | true => exact key l hk hh
      | false =>
        have h3 := key2 l hk hh
        refine (h nm B h3).resolve_left ?_
        simp only [hasN, hh, Bool.or_false]
        simp only [beq_iff_eq]
        exact fun e => hi e.symm

/-- The state may be taken for a weaker one. -/
def Wk (e : En) (k0 : Kx) (N : Nat) (st st2 : St) : Prop := ∀ a w, Rel e k0 N st a w → Rel e k0 N st2 a w

section
variable {P : Program} {e : En} {k0 : Kx} {N : Nat} {st st2 st3 : St} {Q : Exit → St → Prop}
theorem Wk.refl (st : St) : Wk e k0 N st st := fun _ _ h => h
theorem Wk.trans (h : Wk e k0 N st st2) (k : Wk e k0 N st2 st3) : Wk e k0 N st st3 := fun a w hr => k a w (h a w hr)
theorem wk_keep (l m : List Nat) : Wk e k0 N st ⟨keepT st.tm l, keepH st.H m, st.nx, st.nb⟩ := fun a w hr => rel_keep _ _ (keepT_ok _ l) (keepH_ok _ m) hr
theorem wk_on (H0 : Hp) (l m : List Nat) (h : ∀ x B, H0 x = some B → hasN m x = true ∨ st.H x = some B) : Wk e k0 N st ⟨keepT st.tm l, keepOn H0 st.H m, st.nx, st.nb⟩ := fun a w hr => rel_keep _ _ (keepT_ok _ l) (keepOn_ok _ _ m h) hr
theorem awp_on {c : Code} (H0 : Hp) (l m : List Nat) (h : ∀ x B, H0 x = some B → hasN m x = true ∨ st.H x = some B) (h2 : Awp P e k0 N c Q ⟨keepT st.tm l, keepOn H0 st.H m, st.nx, st.nb⟩) : Awp P e k0 N c Q st := awp_pre _ (wk_on H0 l m h) h2
theorem awp_wk {c : Code} (h : Wk e k0 N st st2) (h2 : Awp P e k0 N c Q st2) : Awp P e k0 N c Q st := awp_pre st2 h h2
theorem awp_keep {c : Code} (l m : List Nat) (h2 : Awp P e k0 N c Q ⟨keepT st.tm l, keepH st.H m, st.nx, st.nb⟩) : Awp P e k0 N c Q st := awp_pre _ (wk_keep l m) h2
theorem awp_nil {c : Code} (t d : Nat) (E : TypeId) (sz : Nat) (hsz : sz ≠ 0) (htm : st.tm t = .val (.one (.lit (.slice none 0 0)))) (h : Awp P e k0 N c Q ⟨up st.tm t (.val (.one (.own d st.nx 0 sz))), up st.H d (some ⟨st.nx, E, sz, 0, []⟩), st.nx + 1, st.nb⟩) : Awp P e k0 N c Q st :=
  awp_pre _ (fun _ _ hr => rel_nil E sz hsz htm hr) h
theorem awp_nilc {c : Code} (nm off d : Nat) (B : Blk) (E : TypeId) (sz : Nat) (hsz' : sz ≠ 0) (hB : st.H nm = some B) (hne : nm ≠ d) (hsz : B.sz ≠ 0) (hc : B.cs[off]? = some (.lit (.slice none 0 0)))
    (h : Awp P e k0 N c Q ⟨st.tm, up (up st.H d (some ⟨st.nx, E, sz, 0, []⟩)) nm (some { B with cs := B.cs.set off (.own d st.nx 0 sz) }), st.nx + 1, st.nb⟩) : Awp P e k0 N c Q st :=
  awp_pre _ (fun _ _ hr => rel_nil_cell E sz hsz' hB hne hsz hc hr) h
theorem awp_pub {c : Code} {t nm s n sz : Nat} {B : Blk} (htm : st.tm t = .val (.one (.own nm s n sz))) (hB : st.H nm = some B) (hsz : sz ≠ 0) (hs : B.st = s) (h : Awp P e k0 N c Q ⟨up st.tm t (.val (.one (.sh sz n B.cs))), up st.H nm none, st.nx, st.nb⟩) : Awp P e k0 N c Q st :=
  awp_pre _ (fun _ _ hr => rel_publish hB hsz hs htm hr) h

/-- A loop whose round may end in a state that is taken for a weaker one. -/
theorem awp_loopw {c : Code} (I : Nat → St → Prop) (n0 : Nat) (h0 : I n0 st) (round : ∀ n st, I n st → Awp P e k0 N c (Athen (fun st' => ∃ st2, Wk e k0 N st' st2 ∧ ∃ m, m < n ∧ I m st2) Q) st) : Awp P e k0 N (.loop c) Q st := by
  refine awp_loop (fun n st => ∃ st2, Wk e k0 N st st2 ∧ I n st2) n0 ⟨st, Wk.refl st, h0⟩ fun n st ⟨st2, hw, hI⟩ => ?_
  refine awp_wk hw (awp_mono (round n st2 hI) fun ex st' hq => ?_)
  cases ex with
  | normal =>
    obtain ⟨st3, h1, m, h2, h3⟩ := hq
    exact ⟨m, h2, st3, h1, h3⟩
  | _ => exact hq
/-- What follows is proved once, from what holds at the join. -/
theorem awp_cut {x y : Code} (M : St → Prop) (h : Awp P e k0 N x (Athen (fun st' => ∃ st2, Wk e k0 N st' st2 ∧ M st2) Q) st) (h2 : ∀ st2, M st2 → Awp P e k0 N y Q st2) : Awp P e k0 N (.seq x y) Q st := by
  refine awp_seq (awp_mono h fun ex st' hq => ?_)
  cases ex with
  | normal =>
    obtain ⟨st2, h1, h3⟩ := hq
    exact awp_wk h1 (h2 st2 h3)
  | _ => exact hq
end

/-- A state's slots and blocks, as a list. -/
def mkT : List (Nat × AV) → Nat → AV
  | [] => fun _ => .dead
  | x :: l => up (mkT l) x.1 x.2
def mkOn (H0 : Hp) : List (Nat × Blk) → Hp
  | [] => H0
  | x :: l => up (mkOn H0 l) x.1 (some x.2)
def mkH : List (Nat × Blk) → Hp
  | [] => fun _ => none
  | x :: l => up (mkH l) x.1 (some x.2)
theorem inK_i64 (n : Int) : inK .i64 n ↔ -9223372036854775808 ≤ n ∧ n ≤ 9223372036854775807 := by
  have h1 : IntKind.i64.min = -9223372036854775808 := by decide
  have h2 : IntKind.i64.max = 9223372036854775807 := by decide
  unfold inK; rw [h1, h2]
theorem repl_zero (z : List C) : repl 0 z = [] := rfl
theorem repl_succ (n : Nat) (z : List C) : repl (n + 1) z = z ++ repl n z := by simp [repl, List.replicate_succ]
theorem spl_nil (cs : List C) (off : Nat) : spl cs off [] = cs := by simp [spl]
theorem spl_cons0 (c d : C) (cs ds : List C) : spl (c :: cs) 0 (d :: ds) = d :: spl cs 0 ds := by simp [spl]
theorem spl_succ (c : C) (cs ds : List C) (n : Nat) : spl (c :: cs) (n + 1) ds = c :: spl cs n ds := by
  simp only [spl, List.take_succ_cons, List.cons_append]
  rw [show n + 1 + ds.length = (n + ds.length) + 1 by omega, List.drop_succ_cons]
/-- The rules by which a state is reckoned, as one. -/
def SS := And.intro @finOr_some (And.intro @finOr_none (And.intro @finSl_some (And.intro @finSl_none (And.intro @orS_some (And.intro @orS_none (And.intro @effZ.eq_def (And.intro @effSl.eq_def (And.intro @stillNil.eq_def (And.intro @stillCap.eq_def (And.intro @gd.eq_def (And.intro @stepA.eq_def (And.intro @eff.eq_def (And.intro @ev.eq_def (And.intro @litA.eq_def (And.intro @cellsOf.eq_def (And.intro @A1.cells.eq_def (And.intro @stillB.eq_def (And.intro @still.eq_def (And.intro @stillVal.eq_def (And.intro @stillAddr.eq_def (And.intro @stillCall.eq_def (And.intro @lenA.eq_def (And.intro @bnd.eq_def (And.intro @cut.eq_def (And.intro @cut1.eq_def (And.intro @snaps.eq_1 (And.intro @snaps.eq_2 (And.intro @snap1.eq_def (And.intro @snapCs.eq_1 (And.intro @snapCs.eq_2 (And.intro @snapC.eq_def (And.intro @pureCs.eq_1 (And.intro @pureCs.eq_2 (And.intro @pureC.eq_1 (And.intro @pureC.eq_2 (And.intro @pureC.eq_3 (And.intro @pureC.eq_4 (And.intro @abin.eq_def (And.intro @allA.eq_def (And.intro @pure1.eq_def (And.intro @flat1.eq_def (And.intro @Ares.eq_def (And.intro @resL.eq_1 (And.intro @resL.eq_2 (And.intro @resV.eq_def (And.intro @tupA.eq_def (And.intro @putO.eq_def (And.intro @ini.eq_def (And.intro @iniT.eq_1 (And.intro @iniT.eq_2 (And.intro @srcA.eq_def (And.intro @fillC.eq_1 (And.intro @fillC.eq_2 (And.intro @stillBuild.eq_def (And.intro @litsOf.eq_1 (And.intro @litsOf.eq_2 (And.intro @keepT.eq_1 (And.intro @keepT.eq_2 (And.intro @keepH.eq_1 (And.intro @keepH.eq_2 (And.intro @flatC.eq_def (And.intro @mkT.eq_1 (And.intro @mkT.eq_2 (And.intro @mkH.eq_1 (And.intro @mkH.eq_2 (And.intro @inK_i64 (And.intro @repl_zero (And.intro @repl_succ (And.intro @spl_nil (And.intro @spl_cons0 (And.intro @spl_succ (And.intro @AL_nil (And.intro @AL_cons (And.intro @AT_nil (And.intro @AT_take (And.intro @AT_eff (And.intro @ALg_t (And.intro @ALg_f (And.intro @ATt_t (And.intro @ATt_f (And.intro @ATe_t (And.intro @ATe_f (And.intro @fin1_some (And.intro @fin2_some (And.intro @fin0_some (And.intro @SchO.mk.eq_1 (And.intro @SchO.mk.eq_2 (And.intro @SchO.mk.eq_3 (And.intro @keepOn.eq_1 (And.intro @keepOn.eq_2 (And.intro @mkOn.eq_1 (And.intro @mkOn.eq_2 (And.intro @ArI_normal (And.intro @ArI_ret (And.intro @ArI0.eq_def (And.intro @resI.eq_1 (And.intro @resI.eq_2 (And.intro @stillLook.eq_def (And.intro @keyV.eq_def (And.intro @lookA.eq_def (And.intro @effMk.eq_def (And.intro @effPut.eq_def (And.intro @hasN.eq_1 (And.intro @hasN.eq_2 (And.intro @finX_t (And.intro @finX_f (And.intro @finF_some (And.intro @finI_some (And.intro @fnOf.eq_def (And.intro @raws.eq_1 (And.intro @raws.eq_2 (And.intro @finC_some (And.intro @ite_tt (And.intro @ite_ft (And.intro @AT_two (And.intro @beq_ft (And.intro @beq_tf (And.intro @beq_ff (And.intro @beq_tt (And.intro @up_apply (And.intro @Athen_normal (And.intro @Athen_exit (And.intro @Athen_ret (And.intro @Ablock_normal (And.intro @Ablock_ret (And.intro @Ablock_exit (And.intro @Aret_normal (And.intro @Aret_ret (And.intro @Option.bind_some.{0,0} (And.intro @Option.bind_none.{0,0} (And.intro @Option.map_some.{0,0} (And.intro @Option.map_none.{0,0} (And.intro @List.toList_toArray.{0} (And.intro @List.map_cons.{0,0} (And.intro @List.map_nil.{0,0} (And.intro @List.drop_succ_cons.{0} (And.intro @List.drop_zero.{0} (And.intro @List.take_succ_cons.{0} (And.intro @List.take_zero.{0} (And.intro @List.length_cons.{0} (And.intro @List.length_nil.{0} (And.intro @List.getElem?_cons_zero.{0} (And.intro @List.getElem?_cons_succ.{0} (And.intro @List.getElem?_toArray.{0} (And.intro @true_and (And.intro @and_true (And.intro @Bool.or_false (And.intro @Bool.false_or (And.intro @Bool.and_true (And.intro @decide_true (And.intro @decide_false (And.intro @not_true_eq_false (And.intro @not_false_eq_true (And.intro @Nat.zero_add (And.intro @true_or (And.intro @or_true (And.intro @exists_eq_left'.{1} (And.intro @Option.some.injEq.{0} (And.intro @Bool.true_and (And.intro @Bool.false_and (And.intro @Bool.and_self (And.intro @Bool.not_true (And.intro @Bool.not_false (And.intro @List.all_cons.{0} (And.intro @List.all_nil.{0} (And.intro @List.set_cons_zero.{0} (And.intro @List.set_cons_succ.{0} (And.intro @if_true.{1} (And.intro @if_false.{1} (And.intro @Nat.add_zero (And.intro @Nat.zero_mul (And.intro @Nat.mul_one (And.intro @Nat.one_mul (And.intro @List.nil_append.{0} (And.intro @List.cons_append.{0} (And.intro @List.append_nil.{0} (@Int.toNat_natCast)))))))))))))))))))))))))))))))))))))))))))))))))))))))))))))))))))))))))))))))))))))))))))))))))))))))))))))))))))))))))))))))))))))))))))))))))))))))))))))))))))))))))))))))))

/-! ### Rows of records -/

def flat {α : Type} (f : α → List C) (l : List α) : List C := (l.map f).flatten
theorem flat_nil {α : Type} (f : α → List C) : flat f [] = [] := rfl
theorem flat_cons {α : Type} (f : α → List C) (a : α) (l : List α) : flat f (a :: l) = f a ++ flat f l := by simp [flat]
theorem flat_append {α : Type} (f : α → List C) (l m : List α) : flat f (l ++ m) = flat f l ++ flat f m := by simp [flat]
theorem flat_snoc {α : Type} (f : α → List C) (l : List α) (a : α) : flat f (l ++ [a]) = flat f l ++ f a := by simp [flat]
theorem flat_length {α : Type} {f : α → List C} {sz : Nat} (hf : ∀ a, (f a).length = sz) : ∀ l : List α, (flat f l).length = l.length * sz
  | [] => by simp [flat]
  | a :: l => by rw [flat_cons, List.length_append, hf, flat_length hf l, List.length_cons, Nat.succ_mul, Nat.add_comm]
theorem flat_drop {α : Type} {f : α → List C} {sz : Nat} (hf : ∀ a, (f a).length = sz) : ∀ (l : List α) (k : Nat), (flat f l).drop (k * sz) = flat f (l.drop k)
  | l, 0 => by simp
  | [], k + 1 => by simp [flat]
  | a :: l, k + 1 => by
    rw [flat_cons, Nat.succ_mul, Nat.add_comm, ← List.drop_drop, List.drop_left' (hf a), flat_drop hf l k, List.drop_succ_cons]
theorem flat_at {α : Type} {f : α → List C} {sz : Nat} (hf : ∀ a, (f a).length = sz) (l : List α) (k : Nat) (h : k < l.length) : (flat f l).drop (k * sz) = f l[k] ++ flat f (l.drop (k + 1)) := by
  rw [flat_drop hf, List.drop_eq_getElem_cons h, flat_cons]
theorem flat_take {α : Type} {f : α → List C} {sz : Nat} (hf : ∀ a, (f a).length = sz) (l : List α) (k : Nat) : (flat f l).take (k * sz) = flat f (l.take k) := by
  rcases Nat.lt_or_ge k l.length with h | h
  · have h1 : flat f l = flat f (l.take k) ++ flat f (l.drop k) := by rw [← flat_append, List.take_append_drop]
    rw [h1, List.take_left']
    rw [flat_length hf, List.length_take, Nat.min_eq_left (by omega)]
  · rw [List.take_of_length_le h, List.take_of_length_le]
    rw [flat_length hf]; exact Nat.mul_le_mul_right _ h
theorem pure_append (a b : List C) : pureCs (a ++ b) = (pureCs a && pureCs b) := by
  induction a with
  | nil => simp [pureCs]
  | cons c a ih => simp [pureCs, ih, Bool.and_assoc]
theorem flat_pure {α : Type} {f : α → List C} (hf : ∀ a, pureCs (f a) = true) : ∀ l : List α, pureCs (flat f l) = true
  | [] => rfl
  | a :: l => by rw [flat_cons, pure_append, hf, flat_pure hf l]; rfl
theorem spl_mid {α : Type} (a b c d : List α) (h : b.length = d.length) : spl (a ++ (b ++ c)) a.length d = a ++ (d ++ c) := by
  simp [spl, ← h, List.drop_append]

end Go.Proofs.YtogeijhepjcbgaaGreatDoor
end
section
/- Groups of estates as plain data; their readings; the builder of the laws as a plain function. No program in sight. -/
namespace Go.Proofs.YtogeijhepjcbgaaGreatDoor
open Go.RowKit

structure GClaim where
  holder : Int
  rank : Int
  amount : GRat
deriving Inhabited
structure GPart where
  claim : Int
  capped : Bool
  cap : GRat
deriving Inhabited
abbrev GAgr := List (List GPart)
structure GEst where
  cash : GRat
  claims : List GClaim
  agrs : List GAgr
deriving Inhabited
structure GDebt where
  whole : GRat
  legs : List (Int × Int)
deriving Inhabited
structure GGrp where
  ests : List GEst
  debts : List GDebt
deriving Inhabited

def rClaim : CRep GClaim := fun _ _ cs c => cs = [.int .i64 c.holder, .int .i64 c.rank, .bool c.amount.neg, .string c.amount.num, .string c.amount.den] ∧ i64ok c.holder ∧ i64ok c.rank ∧ c.amount.num.size ≤ maxLen ∧ c.amount.den.size ≤ maxLen
def rPart : CRep GPart := fun _ _ cs c => cs = [.int .i64 c.claim, .bool c.capped, .bool c.cap.neg, .string c.cap.num, .string c.cap.den] ∧ i64ok c.claim ∧ c.cap.num.size ≤ maxLen ∧ c.cap.den.size ≤ maxLen
def rAgr : CRep GAgr := rSlice 1 (rSlice 5 rPart)
def rEst : CRep GEst := fun w B cs e => ∃ v u, cs = [.bool e.cash.neg, .string e.cash.num, .string e.cash.den, v, u] ∧ e.cash.num.size ≤ maxLen ∧ e.cash.den.size ≤ maxLen ∧ rSlice 5 rClaim w B [v] e.claims ∧ rSlice 1 rAgr w B [u] e.agrs
def rLegP : CRep (Int × Int) := fun _ _ cs n => cs = [.int .i64 n.1, .int .i64 n.2] ∧ i64ok n.1 ∧ i64ok n.2
def rDebt : CRep GDebt := fun w B cs d => ∃ v, cs = [.bool d.whole.neg, .string d.whole.num, .string d.whole.den, v] ∧ d.whole.num.size ≤ maxLen ∧ d.whole.den.size ≤ maxLen ∧ rSlice 2 rLegP w B [v] d.legs
def rGrp : CRep GGrp := fun w B cs g => ∃ v u, cs = [v, u] ∧ rSlice 5 rEst w B [v] g.ests ∧ rSlice 4 rDebt w B [u] g.debts

theorem stays_rClaim : Stays rClaim := stays_pure
theorem stays_rPart : Stays rPart := stays_pure
theorem stays_rLegP : Stays rLegP := stays_pure
theorem stays_rAgr : Stays rAgr := stays_rSlice (stays_rSlice stays_rPart)
theorem stays_rEst : Stays rEst := by
  rintro w w' S S' cs e ⟨v, u, rfl, h1, h2, h3, h4⟩ hb hB
  exact ⟨v, u, rfl, h1, h2, stays_rSlice stays_rClaim _ _ _ _ _ _ h3 hb hB, stays_rSlice stays_rAgr _ _ _ _ _ _ h4 hb hB⟩
theorem stays_rDebt : Stays rDebt := by
  rintro w w' S S' cs e ⟨v, rfl, h1, h2, h3⟩ hb hB
  exact ⟨v, rfl, h1, h2, stays_rSlice stays_rLegP _ _ _ _ _ _ h3 hb hB⟩
theorem stays_rGrp : Stays rGrp := by
  rintro w w' S S' cs e ⟨v, u, rfl, h1, h2⟩ hb hB
  exact ⟨v, u, rfl, stays_rSlice stays_rEst _ _ _ _ _ _ h1 hb hB, stays_rSlice stays_rDebt _ _ _ _ _ _ h2 hb hB⟩

/-! ### The builder -/

noncomputable def gAmt (x : Nat) : GRat := enc (qAmt x)
def ztEst : GEst := ⟨gZ, [], []⟩
noncomputable def mkEst (cash : List Nat) (i : Nat) : GEst := ⟨if i < cash.length then gAmt (cash.getD i 0) else gZ, [], []⟩
def mkHolder (size i c1 : Nat) : Int := if c1 % (size + 1) = i ∨ size ≤ c1 % (size + 1) then -1 else ((c1 % (size + 1) : Nat) : Int)
structure N4 where
  a : Nat
  b : Nat
  c : Nat
  d : Nat
deriving Inhabited
structure N3 where
  a : Nat
  b : Nat
  c : Nat
deriving Inhabited
noncomputable def mkClaim (size : Nat) (x : N4) : GClaim := ⟨mkHolder size (x.a % size) x.b, ((x.c % 3 : Nat) : Int), gAmt x.d⟩
noncomputable def addClaim (size : Nat) (es : List GEst) (x : N4) : List GEst :=
  if 6 ≤ (es.getD (x.a % size) ztEst).claims.length then es
  else es.set (x.a % size) { es.getD (x.a % size) ztEst with claims := (es.getD (x.a % size) ztEst).claims ++ [mkClaim size x] }
noncomputable def mkEsts (n : Nat) (cash : List Nat) (list : List N4) : List GEst :=
  list.foldl (addClaim (1 + n % 4)) ((List.range (1 + n % 4)).map (mkEst cash))

def rN4 : CRep N4 := fun _ _ cs x => cs = [.int .u16 x.a, .int .u16 x.b, .int .u16 x.c, .int .u16 x.d] ∧ x.a < 65536 ∧ x.b < 65536 ∧ x.c < 65536 ∧ x.d < 65536
def rN3 : CRep N3 := fun _ _ cs x => cs = [.int .u16 x.a, .int .u16 x.b, .int .u16 x.c] ∧ x.a < 65536 ∧ x.b < 65536 ∧ x.c < 65536
theorem stays_rN4 : Stays rN4 := stays_pure
theorem stays_rN3 : Stays rN3 := stays_pure

end Go.Proofs.YtogeijhepjcbgaaGreatDoor
end
section
/- Groups of estates as cells; comparisons of legs; maps of legs. -/
namespace Go.Proofs.YtogeijhepjcbgaaGreatDoor
open Go Go.RowKit

def cClaim (c : GClaim) : List C := [.lit (.int .i64 c.holder), .lit (.int .i64 c.rank), .lit (.bool c.amount.neg), .lit (.string c.amount.num), .lit (.string c.amount.den)]
def cPart (p : GPart) : List C := [.lit (.int .i64 p.claim), .lit (.bool p.capped), .lit (.bool p.cap.neg), .lit (.string p.cap.num), .lit (.string p.cap.den)]
def cTier (t : List GPart) : List C := [.sh 5 t.length (flat cPart t)]
def cAgr (a : GAgr) : List C := [.sh 1 a.length (flat cTier a)]
def cEst (e : GEst) : List C := [.lit (.bool e.cash.neg), .lit (.string e.cash.num), .lit (.string e.cash.den), .sh 5 e.claims.length (flat cClaim e.claims), .sh 1 e.agrs.length (flat cAgr e.agrs)]
abbrev Leg := Int × Int
def cLeg (l : Leg) : List C := [.lit (.int .i64 l.1), .lit (.int .i64 l.2)]
def cDebt (d : GDebt) : List C := [.lit (.bool d.whole.neg), .lit (.string d.whole.num), .lit (.string d.whole.den), .sh 2 d.legs.length (flat cLeg d.legs)]
def cGrp (g : GGrp) : List C := [.sh 5 g.ests.length (flat cEst g.ests), .sh 4 g.debts.length (flat cDebt g.debts)]
def cI (n : Int) : List C := [.lit (.int .i64 n)]

theorem cClaim_len (c : GClaim) : (cClaim c).length = 5 := rfl
theorem cPart_len (c : GPart) : (cPart c).length = 5 := rfl
theorem cTier_len (c : List GPart) : (cTier c).length = 1 := rfl
theorem cAgr_len (c : GAgr) : (cAgr c).length = 1 := rfl
theorem cEst_len (c : GEst) : (cEst c).length = 5 := rfl
theorem cLeg_len (c : Leg) : (cLeg c).length = 2 := rfl
theorem cDebt_len (c : GDebt) : (cDebt c).length = 4 := rfl
theorem cI_len (c : Int) : (cI c).length = 1 := rfl
theorem cClaim_pure (c : GClaim) : pureCs (cClaim c) = true := rfl
theorem cPart_pure (c : GPart) : pureCs (cPart c) = true := rfl
theorem cTier_pure (t : List GPart) : pureCs (cTier t) = true := by simp [cTier, pureCs, pureC, flat_pure cPart_pure]
theorem cAgr_pure (a : GAgr) : pureCs (cAgr a) = true := by simp [cAgr, pureCs, pureC, flat_pure cTier_pure]
theorem cEst_pure (e : GEst) : pureCs (cEst e) = true := by simp [cEst, pureCs, pureC, flat_pure cClaim_pure, flat_pure cAgr_pure]
theorem cLeg_pure (c : Leg) : pureCs (cLeg c) = true := rfl
theorem cDebt_pure (d : GDebt) : pureCs (cDebt d) = true := by simp [cDebt, pureCs, pureC, flat_pure cLeg_pure]
theorem cGrp_pure (g : GGrp) : pureCs (cGrp g) = true := by simp [cGrp, pureCs, pureC, flat_pure cEst_pure, flat_pure cDebt_pure]
theorem cI_pure (n : Int) : pureCs (cI n) = true := rfl

/-! ### Maps of legs -/

def legV (l : Leg) : Value := .agg #[.int .i64 l.1, .int .i64 l.2]
def setC (T : List Leg) : List C := T.map fun l => ent (legV l) (.bool true)
theorem eqW_leg (a b : Leg) : eqW (legV a) (legV b) = decide (a = b) := by
  obtain ⟨a1, a2⟩ := a
  obtain ⟨b1, b2⟩ := b
  simp only [eqW, legV, eqVs, eqV, Bool.and_true]
  by_cases h1 : a1 = b1 <;> by_cases h2 : a2 = b2 <;> simp [h1, h2]
theorem mget_set (l : Leg) : ∀ T : List Leg, mget (legV l) (setC T) = if l ∈ T then some (.bool true) else none
  | [] => rfl
  | a :: T => by
    simp only [setC, List.map_cons, mget, kvOf_ent, eqW_leg, decide_eq_true_eq, List.mem_cons]
    by_cases h : l = a
    · simp [h]
    · have := mget_set l T
      simp only [setC] at this
      simp [h, this]
theorem mput_set (l : Leg) : ∀ T : List Leg, l ∉ T → mput (legV l) (.bool true) (setC T) = setC (T ++ [l])
  | [], _ => rfl
  | a :: T, h => by
    simp only [List.mem_cons, not_or] at h
    have := mput_set l T h.2
    simp only [setC] at this
    simp only [setC, List.map_cons, mput, kvOf_ent, eqW_leg, decide_eq_true_eq, h.1, if_false, List.cons_append, this]
theorem leg_fields : (Tryz.prog.fieldsOf 39).toList = [⟨ "Estate", 3, 0, false, "", "", 0⟩, ⟨ "Claim", 3, 1, false, "", "", 8⟩] := by kernel_rfl
theorem int_one : ldT Tryz.prog 3 = some (false, 1) := by kernel_rfl
theorem part_int (cs : Array Value) (i : Nat) (v : Value) (h : cs[i]? = some v) (w : World) : (part 3 cs i).run Tryz.prog w = .ok v w := by
  simp [part, (ldT_one int_one w).1, h]
theorem part_0 (x y : Value) (w : World) : (part 3 #[x, y] 0).run Tryz.prog w = .ok x w := part_int _ 0 _ rfl w
theorem part_1 (x y : Value) (w : World) : (part 3 #[x, y] 1).run Tryz.prog w = .ok y w := part_int _ 1 _ rfl w
theorem leg_equal (a b : Leg) (w : World) : (Op.equal 39 (legV a) (legV b)).run Tryz.prog w = .ok (decide (a = b)) w := by
  obtain ⟨a1, a2⟩ := a
  obtain ⟨b1, b2⟩ := b
  have h2 := run_equalIn_agg (P := Tryz.prog) w 9999 39 #[.int .i64 a1, .int .i64 a2] #[.int .i64 b1, .int .i64 b2] (by kernel_rfl) (by kernel_rfl)
  have h3 : (Op.equal 39 (legV (a1, a2)) (legV (b1, b2))).run Tryz.prog w = (Op.equalIn (9999 + 1) 39 (.agg #[.int .i64 a1, .int .i64 a2]) (.agg #[.int .i64 b1, .int .i64 b2])).run Tryz.prog w := rfl
  have hi := fun (x y : Int) => run_equalIn_int (P := Tryz.prog) w 9998 3 .i64 .i64 x y (by kernel_rfl)
  rw [h3, h2, leg_fields]
  have n1 : ¬ "Estate" = "_" := by decide
  have n2 : ¬ "Claim" = "_" := by decide
  simp only [Op.eqFields, ne_eq, n1, n2, not_false_eq_true, if_true, Sem.run_bind, part_0, part_1, Result.andThen_ok, hi]
  by_cases g1 : a1 = b1 <;> by_cases g2 : a2 = b2 <;> simp [g1, g2, hi, part_0, part_1, Op.eqFields]

theorem leg_key (b : Bool) (l : Leg) (w : World) : (Instr.checkKey b 10000 39 (legV l)).run Tryz.prog w = .ok () w := by
  have hu : Tryz.prog.underlying 39 = some (.struct (Tryz.prog.fieldsOf 39)) := by kernel_rfl
  have hi : Tryz.prog.underlying 3 = some (.int .i64) := by kernel_rfl
  have k : ∀ d v, (Instr.checkKey b (d + 1) 3 (.int .i64 v)).run Tryz.prog w = .ok () w := fun d v => by
    simp [Instr.checkKey, underlying, hi]
  have e : (Instr.checkKey b (9999 + 1) 39 (legV l)).run Tryz.prog w = .ok () w := by
    have n1 : ¬ "Estate" = "_" := by decide
    have n2 : ¬ "Claim" = "_" := by decide
    rw [Instr.checkKey]
    simp only [Sem.run_bind, run_underlying hu, Result.andThen_ok, legV]
    rw [← Array.forIn_toList, leg_fields]
    simp [List.forIn_cons, n1, n2, part_0, part_1, k 9998]
  exact e
theorem MK_leg (l : Leg) (T : List Leg) : MK Tryz.prog 39 (legV l) (setC T) := by
  refine ⟨fun b w => leg_key b l w, .struct (Tryz.prog.fieldsOf 39), by kernel_rfl, fun c hc => ?_⟩
  obtain ⟨x, hx, rfl⟩ := List.mem_map.1 hc
  refine ⟨legV x, .bool true, rfl, fun w => by rw [eqW_leg]; exact leg_equal l x w, .inl rfl, fun h => ?_⟩
  rw [eqW_leg] at h
  obtain rfl := of_decide_eq_true h
  simp [legV, Instr.sameBits]

theorem mget_in (l : Leg) (T : List Leg) (h : l ∈ T) : mget (.agg #[.int .i64 l.1, .int .i64 l.2]) (setC T) = some (.bool true) := by
  have := mget_set l T; rw [if_pos h] at this; exact this
theorem mget_out (l : Leg) (T : List Leg) (h : l ∉ T) : mget (.agg #[.int .i64 l.1, .int .i64 l.2]) (setC T) = none := by
  have := mget_set l T; rw [if_neg h] at this; exact this
theorem mput_new (l : Leg) (T : List Leg) (h : l ∉ T) : mput (.agg #[.int .i64 l.1, .int .i64 l.2]) (.bool true) (setC T) = setC (T ++ [l]) := mput_set l T h

end Go.Proofs.YtogeijhepjcbgaaGreatDoor
end
section
/- From a walked law to its row: the arguments opened into plain readings; what stands behind the call. No program in sight. -/
namespace Go.Proofs.YtogeijhepjcbgaaGreatDoor
open Go.RowKit Go.ChangeShapes Go.WideShapes Go.ChangeAt

theorem trodAll_below {H : Type} {enc : TypeId × Value → H} {P : Program} (hl : laidOutB P = true) {W W' : World} (hb : Below W.heap.size W W') :
    ∀ (ts : List TypeId) (vs : List Value) (ds : List (DataW H)) (ps : List MemPlace), (∀ t ∈ ts, P.readableRec t = true ∧ t < P.types.size) → (∀ p ∈ ps, p.block < W.heap.size) →
      DataW.TrodAll enc P W 0 (fun _ => true) true ts vs ds ps → DataW.TrodAll enc P W' 0 (fun b => decide (b < W.heap.size)) true ts vs ds ps := by
  intro ts
  induction ts with
  | nil =>
    intro vs ds ps _ _ h
    obtain ⟨rfl, rfl, rfl⟩ := trodAll_nil h
    exact trodAll_mk0
  | cons t ts ih =>
    intro vs ds ps hts hps h
    obtain ⟨v, vs', d, ds', p, q, rfl, rfl, rfl, h0, h1⟩ := trodAll_cons h
    have ht := hts t (by simp)
    refine trodAll_cons_mk ?_ (ih _ _ _ (fun t' ht' => hts t' (by simp [ht'])) (fun x hx => hps x (by simp [hx])) h1)
    exact Below.trod hl ht.1 ht.2 h0 hb (fun x hx => hps x (by simp [hx]))

/-- What a law's row asks behind the call: true; nothing of old memory has turned. -/
theorem law_post {H : Type} {enc : TypeId × Value → H} {P : Program} {fn : Func} {s : ChangeSpec} {W W' : World} {args : Array Value} {ds : List (DataW H)} {before : List MemPlace} {bt : TypeId}
    (hl : laidOutB P = true) (hts : fn.params.toList.all (fun t => P.readableRec t && decide (t < P.types.size)) = true) (hvars : s.vars = [])
    (hW : DataW.Whole enc P fn.params.toList s.vars false W args.toList ds [] before)
    (hres : (s.fn H (ds ++ [])).results = [.lit (.bool true)]) (hargs : (s.fn H (ds ++ [])).args = ds) (hrv : (s.fn H (ds ++ [])).vars = [])
    (hrt : fn.resultTypes = #[bt]) (hbt : P.underlying bt = some .bool) (hb : Below W.heap.size W W') : s.post enc P fn false true false false W args (.bool true) W' := by
  have hW0 := hW
  obtain ⟨p, q, hA, hV, rfl, _, _⟩ := hW
  rw [hvars] at hV
  obtain ⟨_, hq⟩ := trodVars_none hV
  have hlt := hW0.lt
  refine ⟨ds, [], p ++ q, [], p, [], hW0, ?_, ?_, ?_, ?_, fun h => by cases h⟩
  · rw [hres, hrt]
    exact trodAll_mk1 (shut_bool hbt true)
  · rw [hargs]
    exact trodAll_below hl hb _ _ _ _ (fun t ht => by have := List.all_eq_true.1 hts t ht; simpa using this) (fun x hx => hlt x (by simp [hx])) hA
  · rw [hrv, hvars]; rfl
  · exact hb.frame _

/-! ### Arguments opened -/

def Opens (P : Program) (t : TypeId) {α : Type} (R : CRep α) : Prop :=
  ∀ (H : Type) (enc : TypeId × Value → H) (W : World) (fuel : Nat) (cs : List Value) (x : DataW H × List MemPlace), DataW.trod enc P W 0 (fun _ => true) true fuel t cs = some x → ∃ a, R W (LT W.heap.size) cs a

theorem opens_slice {P : Program} {t e : TypeId} {α : Type} {R : CRep α} {sz : Nat} (ht : P.underlying t = some (.slice e)) (hc : P.cellsOf e = sz) (hsz : 0 < sz) (he : Opens P e R) : Opens P t (rSlice sz R) := by
  intro H enc W fuel cs x h
  rcases Deep.open_slice ht h with ⟨rfl, _⟩ | ⟨a, len, cap, m, n, D, Pl, rfl, hb, hl, hm, hmm, _, hx⟩
  · exact ⟨[], none, 0, rfl, by simp, by unfold maxLen; omega, fun _ => rfl, .inl rfl⟩
  · rw [if_pos rfl] at hmm
    subst hmm
    rw [hc] at hx
    have hel : ∀ i, i < len → ∃ cs, cs.length = sz ∧ (∀ c, c < sz → W.cell? ((a.add (i * sz)).add c) = cs[c]?) ∧ ∃ y, R W (LT W.heap.size) cs y := by
      intro i hi
      obtain ⟨cs', h1, h2⟩ := hx i (by omega)
      obtain ⟨_, h3, h4⟩ := World.cells?_some h1
      exact ⟨cs', h3, h4, he H enc W n cs' _ h2⟩
    rcases Nat.eq_zero_or_pos len with hlen | hlen
    · subst hlen
      exact ⟨[], some a, _, rfl, by simp, hm, by simp, .inl rfl⟩
    · obtain ⟨cs0, e1, e2, _⟩ := hel 0 hlen
      have e3 := e2 0 hsz
      rw [List.getElem?_eq_getElem (by omega)] at e3
      simp only [Nat.zero_mul, Addr.add, if_pos] at e3
      have hspot : a.spot = none := by
        unfold World.cell? at e3
        cases hsp : a.spot with
        | none => rfl
        | some s => rw [hsp] at e3; split at e3 <;> simp at e3
      have hblk := World.block_lt_of_cell? _ _ e3
      obtain ⟨b, off, sp⟩ := a
      simp only at hspot hblk
      subst hspot
      have hadd : ∀ i c, ((⟨b, off, none⟩ : Addr).add (i * sz)).add c = ⟨b, off + i * sz + c, none⟩ := by
        intro i c
        unfold Addr.add
        by_cases hi : i * sz = 0 <;> by_cases hcc : c = 0 <;> simp [hi, hcc]
      let f : Fin len → α := fun i => (hel i.1 i.2).choose_spec.2.2.choose
      refine ⟨List.ofFn f, some ⟨b, off, none⟩, _, by simp, by simpa using hl, hm, by simp, .inr ⟨b, off, rfl, hblk, fun j hj => ?_⟩⟩
      have hj' : j < len := by simpa using hj
      have h5 := (hel j hj').choose_spec
      refine ⟨_, h5.1, fun c hc => by rw [← hadd]; exact h5.2.1 c hc, ?_⟩
      have h6 := h5.2.2.choose_spec
      simpa [f] using h6

theorem opens_i64 {P : Program} {t : TypeId} (ht : P.underlying t = some (.int .i64)) : Opens P t rI64 := by
  intro H enc W fuel cs x h
  obtain ⟨n, rfl, _, hw⟩ := DataW.trod_int ht h
  have : i64ok n := by simpa [Lit.wf, IntKind.min, IntKind.max, IntKind.signed, IntKind.bits, i64ok] using hw
  exact ⟨n, rfl, this⟩
theorem opens_u8 {P : Program} {t : TypeId} (ht : P.underlying t = some (.int .u8)) : Opens P t rU8 := by
  intro H enc W fuel cs x h
  obtain ⟨n, rfl, _, hw⟩ := DataW.trod_int ht h
  have : 0 ≤ n ∧ n ≤ 255 := by simpa [Lit.wf, IntKind.min, IntKind.max, IntKind.signed, IntKind.bits] using hw
  exact ⟨n.toNat, by rw [show ((n.toNat : Nat) : Int) = n by omega], by omega⟩
theorem opens_u16 {P : Program} {t : TypeId} (ht : P.underlying t = some (.int .u16)) : Opens P t rU16 := by
  intro H enc W fuel cs x h
  obtain ⟨n, rfl, _, hw⟩ := DataW.trod_int ht h
  have : 0 ≤ n ∧ n ≤ 65535 := by simpa [Lit.wf, IntKind.min, IntKind.max, IntKind.signed, IntKind.bits] using hw
  exact ⟨n.toNat, by rw [show ((n.toNat : Nat) : Int) = n by omega], by omega⟩

theorem open_slice_arg {P : Program} {t e : TypeId} {α : Type} {R : CRep α} {H : Type} {enc : TypeId × Value → H} {W : World} {v : Value} {d : DataW H} {p : List MemPlace} {base : Nat} {rc : Reach}
    (ht : P.underlying t = some (.slice e)) (hok : Value.okWide P W rc base t v) (ho : Opens P t R) (h : DataW.Trod enc P W 0 (fun _ => true) true t v d p) : ∃ l, R W (LT W.heap.size) [v] l := by
  obtain ⟨a, len, cap, rfl⟩ := okWide_slice ht hok
  obtain ⟨fuel, h⟩ := h
  exact ho H enc W fuel _ _ h
theorem open_int_arg {P : Program} {t : TypeId} {k : IntKind} {α : Type} {R : CRep α} {H : Type} {enc : TypeId × Value → H} {W : World} {v : Value} {d : DataW H} {p : List MemPlace} {base : Nat} {rc : Reach}
    (ht : P.underlying t = some (.int k)) (hok : Value.okWide P W rc base t v) (ho : Opens P t R) (h : DataW.Trod enc P W 0 (fun _ => true) true t v d p) : ∃ l, R W (LT W.heap.size) [v] l := by
  obtain ⟨n, rfl⟩ := okWide_int ht hok
  obtain ⟨fuel, h⟩ := h
  exact ho H enc W fuel _ _ h

end Go.Proofs.YtogeijhepjcbgaaGreatDoor
end
section
/- Arguments that are rationals, opened. -/
namespace Go.Proofs.YtogeijhepjcbgaaGreatDoor
open Go.RowKit Go.ChangeShapes Go.WideShapes Go.ChangeAt

theorem opens_fields {P : Program} {t : TypeId} {fs : Array Field} {α : Type} {R : CRep α} (ht : P.underlying t = some (.struct fs))
    (h : ∀ (H : Type) (enc : TypeId × Value → H) (W : World) (n : Nat) (cs : List Value), cs.length = P.cellsOf t →
      (∀ (i : Nat) (f : Field) (k : Nat), fs[i]? = some f → P.cellsOf f.type = k → ∃ x, DataW.trod enc P W 0 (fun _ => true) true n f.type ((cs.drop f.offset).take k) = some x) → ∃ a, R W (LT W.heap.size) cs a) : Opens P t R := by
  intro H enc W fuel cs x hx
  obtain ⟨xs, n, _, _, hl, hxs, hf⟩ := DataW.trod_struct ht hx
  refine h H enc W n cs hl fun i f k hi hk => ?_
  subst hk
  have hlt : i < xs.length := by rw [hxs]; exact (Array.getElem?_eq_some_iff.1 hi).1
  exact ⟨xs[i], by rw [hf i f hi, List.getElem?_eq_getElem hlt]⟩

theorem open_agg_arg {P : Program} {t : TypeId} {fs : Array Field} {α : Type} {R : CRep α} {H : Type} {enc : TypeId × Value → H} {W : World} {v : Value} {d : DataW H} {p : List MemPlace} {base : Nat} {rc : Reach}
    (ht : P.underlying t = some (.struct fs)) (hok : Value.okWide P W rc base t v) (ho : Opens P t R) (h : DataW.Trod enc P W 0 (fun _ => true) true t v d p) : ∃ l, ∃ cs : Array Value, v = .agg cs ∧ R W (LT W.heap.size) cs.toList l := by
  obtain ⟨cs, rfl, _⟩ := okWide_struct ht hok
  obtain ⟨fuel, h⟩ := h
  obtain ⟨a, ha⟩ := ho H enc W fuel _ _ h
  exact ⟨a, cs, rfl, ha⟩

theorem Tryz.cellsRat : Tryz.prog.cellsOf 44 = 3 := by kernel_rfl
theorem Tryz.cellsBool : Tryz.prog.cellsOf 4 = 1 := by kernel_rfl
theorem Tryz.cellsString : Tryz.prog.cellsOf 9 = 1 := by kernel_rfl
set_option maxRecDepth 100000 in
theorem opens_rat : Opens Tryz.prog 44 rRat := by
  refine opens_fields Tryz.underlying44 fun H enc W n cs hl hf => ?_
  rw [Tryz.cellsRat] at hl
  match cs, hl with
  | [c0, c1, c2], _ =>
    obtain ⟨x0, h0⟩ := hf 0 _ 1 rfl Tryz.cellsBool
    obtain ⟨x1, h1⟩ := hf 1 _ 1 rfl Tryz.cellsString
    obtain ⟨x2, h2⟩ := hf 2 _ 1 rfl Tryz.cellsString
    obtain ⟨b, e0, _⟩ := DataW.trod_bool Tryz.underlying4 h0
    obtain ⟨s1, e1, _, k1⟩ := DataW.trod_string Tryz.underlying9 h1
    obtain ⟨s2, e2, _, k2⟩ := DataW.trod_string Tryz.underlying9 h2
    replace e0 : [c0] = [.bool b] := e0
    replace e1 : [c1] = [.string s1] := e1
    replace e2 : [c2] = [.string s2] := e2
    simp only [List.cons.injEq, and_true] at e0 e1 e2
    subst e0 e1 e2
    exact ⟨⟨b, s1, s2⟩, rfl, k1, k2⟩
theorem opens_rats : Opens Tryz.prog 127 (rSlice 3 rRat) := opens_slice Tryz.underlying127 Tryz.cellsRat (by decide) opens_rat

end Go.Proofs.YtogeijhepjcbgaaGreatDoor
end
section
/- Arguments that are groups of estates, opened as cells. -/
namespace Go.Proofs.YtogeijhepjcbgaaGreatDoor
open Go.RowKit Go.ChangeShapes Go.WideShapes Go.ChangeAt Go

/-- A reading by cells: the values are what the cells say, in a world whose every block stays. -/
def rC {α : Type} (enc : α → List C) (ok : α → Prop) : CRep α := fun W T cs a => denVs (kIn W T W) cs (enc a) ∧ ok a
def cSl {α : Type} (sz : Nat) (enc : α → List C) (l : List α) : List C := [.sh sz l.length (flat enc l)]
def okSl {α : Type} (ok : α → Prop) (l : List α) : Prop := l.length ≤ maxLen ∧ ∀ a ∈ l, ok a
theorem denM_append {κ : Kx} {b : Nat} : ∀ {xs ys : List C} {off : Nat}, denM κ b off xs → denM κ b (off + xs.length) ys → denM κ b off (xs ++ ys)
  | [], ys, off, _, h => by simpa using h
  | x :: xs, ys, off, h, k => by
    simp only [denM, List.cons_append] at h ⊢
    refine ⟨h.1, denM_append h.2 ?_⟩
    rw [List.length_cons] at k
    rwa [Nat.add_assoc, Nat.add_comm 1]
theorem denM_flat {α : Type} {enc : α → List C} {sz : Nat} (hlen : ∀ a, (enc a).length = sz) {κ : Kx} {b : Nat} :
    ∀ (l : List α) (off : Nat), (∀ j (h : j < l.length), ∃ cs, cs.length = sz ∧ (∀ c, c < sz → κ.w.cell? ⟨b, off + j * sz + c, none⟩ = cs[c]?) ∧ denVs κ cs (enc l[j])) → denM κ b off (flat enc l)
  | [], _, _ => by simp [flat, denM]
  | a :: l, off, h => by
    rw [flat_cons]
    refine denM_append ?_ ?_
    · obtain ⟨cs, h1, h2, h3⟩ := h 0 (by simp)
      refine denM.of_vals h3 fun j u hj => ?_
      have hlt : j < sz := by rw [← h1]; exact (List.getElem?_eq_some_iff.1 hj).1
      have := h2 j hlt
      rw [← hj, ← this]
      simp
    · rw [hlen]
      refine denM_flat hlen l (off + sz) fun j hj => ?_
      obtain ⟨cs, h1, h2, h3⟩ := h (j + 1) (by simpa using hj)
      refine ⟨cs, h1, fun c hc => ?_, by simpa using h3⟩
      rw [← h2 c hc]
      congr 2
      rw [Nat.succ_mul]; omega
theorem opens_sl {P : Program} {t e : TypeId} {α : Type} {enc : α → List C} {ok : α → Prop} {sz : Nat} (ht : P.underlying t = some (.slice e)) (hc : P.cellsOf e = sz) (hsz : 0 < sz) (hlen : ∀ a, (enc a).length = sz)
    (he : Opens P e (rC enc ok)) : Opens P t (rC (cSl sz enc) (okSl ok)) := by
  intro H nc W fuel cs x h
  obtain ⟨l, a, cap, rfl, h1, h2, h3, h4⟩ := opens_slice ht hc hsz he H nc W fuel cs x h
  have hl : l.length ≤ maxLen := Nat.le_trans h1 h2
  rcases h4 with rfl | ⟨b, off, rfl, hb, hall⟩
  · exact ⟨[], ⟨⟨a, cap, rfl, h1, h2, h3, by simp [flat], .inl rfl⟩, trivial⟩, hl, fun _ h => by cases h⟩
  · refine ⟨l, ⟨⟨_, cap, rfl, h1, h2, h3, flat_length hlen l, .inr ⟨b, off, rfl, kAll_S hb, denM_flat hlen l off fun j hj => ?_⟩⟩, trivial⟩, hl, fun y hy => ?_⟩
    · obtain ⟨cs, k1, k2, k3⟩ := hall j hj
      exact ⟨cs, k1, k2, k3.1⟩
    · obtain ⟨j, hj, rfl⟩ := List.getElem_of_mem hy
      obtain ⟨cs, k1, k2, k3⟩ := hall j hj
      exact k3.2
theorem opensC_i64 {P : Program} {t : TypeId} (ht : P.underlying t = some (.int .i64)) : Opens P t (rC cI i64ok) := by
  intro H enc W fuel cs x h
  obtain ⟨n, rfl, hn⟩ := opens_i64 ht H enc W fuel cs x h
  exact ⟨n, ⟨⟨rfl, rfl⟩, trivial⟩, hn⟩
def cBo (b : Bool) : List C := [.lit (.bool b)]
theorem opensC_bool {P : Program} {t : TypeId} (ht : P.underlying t = some .bool) : Opens P t (rC cBo fun _ => True) := by
  intro H enc W fuel cs x h
  obtain ⟨b, e0, _⟩ := DataW.trod_bool ht h
  subst e0
  exact ⟨b, ⟨⟨rfl, rfl⟩, trivial⟩, trivial⟩
def okRat (r : GRat) : Prop := r.num.size ≤ maxLen ∧ r.den.size ≤ maxLen
theorem opensC_rat : Opens Tryz.prog 44 (rC cRat okRat) := by
  intro H enc W fuel cs x h
  obtain ⟨r, rfl, h1, h2⟩ := opens_rat H enc W fuel cs x h
  exact ⟨r, ⟨⟨rfl, rfl⟩, ⟨rfl, rfl⟩, ⟨rfl, rfl⟩, trivial⟩, h1, h2⟩
theorem Tryz.cellsIntC : Tryz.prog.cellsOf 3 = 1 := by kernel_rfl
theorem opensC_int : Opens Tryz.prog 3 (rC cI i64ok) := opensC_i64 Tryz.underlying3
theorem opensC_boolT : Opens Tryz.prog 4 (rC cBo fun _ => True) := opensC_bool Tryz.underlying4

theorem Tryz.cellsCClaim : Tryz.prog.cellsOf 69 = 5 := by kernel_rfl
def okClaim (x : GClaim) : Prop := i64ok x.holder ∧ i64ok x.rank ∧ okRat x.amount
set_option maxRecDepth 100000 in
theorem opensC_Claim : Opens Tryz.prog 69 (rC cClaim okClaim) := by
  refine opens_fields Tryz.underlying69 fun H enc W n cs hl hf => ?_
  rw [Tryz.cellsCClaim] at hl
  match cs, hl with
  | [c0, c1, c2, c3, c4], _ =>
    obtain ⟨x0, h0⟩ := hf 0 _ 1 rfl Tryz.cellsIntC
    obtain ⟨a0, k0, o0⟩ := opensC_int H enc W _ _ _ h0
    replace k0 : denVs (kAll W) [c0] _ := k0
    obtain ⟨x1, h1⟩ := hf 1 _ 1 rfl Tryz.cellsIntC
    obtain ⟨a1, k1, o1⟩ := opensC_int H enc W _ _ _ h1
    replace k1 : denVs (kAll W) [c1] _ := k1
    obtain ⟨x2, h2⟩ := hf 2 _ 3 rfl Tryz.cellsRat
    obtain ⟨a2, k2, o2⟩ := opensC_rat H enc W _ _ _ h2
    replace k2 : denVs (kAll W) [c2, c3, c4] _ := k2
    exact ⟨⟨a0, a1, a2⟩, (denVs.append k0 (denVs.append k1 k2)), o0, o1, o2⟩
theorem Tryz.cellsCClaims : Tryz.prog.cellsOf 64 = 1 := by kernel_rfl
theorem opensC_Claims : Opens Tryz.prog 64 (rC (cSl 5 cClaim) (okSl okClaim)) := opens_sl Tryz.underlying64 Tryz.cellsCClaim (by decide) cClaim_len opensC_Claim
theorem Tryz.cellsCPart : Tryz.prog.cellsOf 81 = 5 := by kernel_rfl
def okPart (x : GPart) : Prop := i64ok x.claim ∧ True ∧ okRat x.cap
set_option maxRecDepth 100000 in
theorem opensC_Part : Opens Tryz.prog 81 (rC cPart okPart) := by
  refine opens_fields Tryz.underlying81 fun H enc W n cs hl hf => ?_
  rw [Tryz.cellsCPart] at hl
  match cs, hl with
  | [c0, c1, c2, c3, c4], _ =>
    obtain ⟨x0, h0⟩ := hf 0 _ 1 rfl Tryz.cellsIntC
    obtain ⟨a0, k0, o0⟩ := opensC_int H enc W _ _ _ h0
    replace k0 : denVs (kAll W) [c0] _ := k0
    obtain ⟨x1, h1⟩ := hf 1 _ 1 rfl Tryz.cellsBool
    obtain ⟨a1, k1, o1⟩ := opensC_boolT H enc W _ _ _ h1
    replace k1 : denVs (kAll W) [c1] _ := k1
    obtain ⟨x2, h2⟩ := hf 2 _ 3 rfl Tryz.cellsRat
    obtain ⟨a2, k2, o2⟩ := opensC_rat H enc W _ _ _ h2
    replace k2 : denVs (kAll W) [c2, c3, c4] _ := k2
    exact ⟨⟨a0, a1, a2⟩, (denVs.append k0 (denVs.append k1 k2)), o0, o1, o2⟩
theorem Tryz.cellsCParts : Tryz.prog.cellsOf 82 = 1 := by kernel_rfl
theorem opensC_Parts : Opens Tryz.prog 82 (rC (cSl 5 cPart) (okSl okPart)) := opens_sl Tryz.underlying82 Tryz.cellsCPart (by decide) cPart_len opensC_Part
theorem Tryz.cellsCTiers : Tryz.prog.cellsOf 83 = 1 := by kernel_rfl
theorem opensC_Tiers : Opens Tryz.prog 83 (rC (cSl 1 (cSl 5 cPart)) (okSl (okSl okPart))) := opens_sl Tryz.underlying83 Tryz.cellsCParts (by decide) (fun _ => rfl) opensC_Parts
theorem cTier_eq : cTier = cSl 5 cPart := rfl
theorem Tryz.cellsCAgr : Tryz.prog.cellsOf 85 = 1 := by kernel_rfl
def okAgr (x : GAgr) : Prop := okSl (okSl okPart) x
set_option maxRecDepth 100000 in
theorem opensC_Agr : Opens Tryz.prog 85 (rC cAgr okAgr) := by
  refine opens_fields Tryz.underlying85 fun H enc W n cs hl hf => ?_
  rw [Tryz.cellsCAgr] at hl
  match cs, hl with
  | [c0], _ =>
    obtain ⟨x0, h0⟩ := hf 0 _ 1 rfl Tryz.cellsCTiers
    obtain ⟨a0, k0, o0⟩ := opensC_Tiers H enc W _ _ _ h0
    replace k0 : denVs (kAll W) [c0] _ := k0
    exact ⟨a0, k0, o0⟩
theorem Tryz.cellsCAgrs : Tryz.prog.cellsOf 65 = 1 := by kernel_rfl
theorem opensC_Agrs : Opens Tryz.prog 65 (rC (cSl 1 cAgr) (okSl okAgr)) := opens_sl Tryz.underlying65 Tryz.cellsCAgr (by decide) cAgr_len opensC_Agr
theorem Tryz.cellsCEst : Tryz.prog.cellsOf 67 = 5 := by kernel_rfl
def okEst (x : GEst) : Prop := okRat x.cash ∧ okSl okClaim x.claims ∧ okSl okAgr x.agrs
set_option maxRecDepth 100000 in
theorem opensC_Est : Opens Tryz.prog 67 (rC cEst okEst) := by
  refine opens_fields Tryz.underlying67 fun H enc W n cs hl hf => ?_
  rw [Tryz.cellsCEst] at hl
  match cs, hl with
  | [c0, c1, c2, c3, c4], _ =>
    obtain ⟨x0, h0⟩ := hf 0 _ 3 rfl Tryz.cellsRat
    obtain ⟨a0, k0, o0⟩ := opensC_rat H enc W _ _ _ h0
    replace k0 : denVs (kAll W) [c0, c1, c2] _ := k0
    obtain ⟨x1, h1⟩ := hf 1 _ 1 rfl Tryz.cellsCClaims
    obtain ⟨a1, k1, o1⟩ := opensC_Claims H enc W _ _ _ h1
    replace k1 : denVs (kAll W) [c3] _ := k1
    obtain ⟨x2, h2⟩ := hf 2 _ 1 rfl Tryz.cellsCAgrs
    obtain ⟨a2, k2, o2⟩ := opensC_Agrs H enc W _ _ _ h2
    replace k2 : denVs (kAll W) [c4] _ := k2
    exact ⟨⟨a0, a1, a2⟩, (denVs.append k0 (denVs.append k1 k2)), o0, o1, o2⟩
theorem Tryz.cellsCEsts : Tryz.prog.cellsOf 27 = 1 := by kernel_rfl
theorem opensC_Ests : Opens Tryz.prog 27 (rC (cSl 5 cEst) (okSl okEst)) := opens_sl Tryz.underlying27 Tryz.cellsCEst (by decide) cEst_len opensC_Est
theorem Tryz.cellsCLeg : Tryz.prog.cellsOf 39 = 2 := by kernel_rfl
def okLeg (x : Leg) : Prop := i64ok x.1 ∧ i64ok x.2
set_option maxRecDepth 100000 in
theorem opensC_Leg : Opens Tryz.prog 39 (rC cLeg okLeg) := by
  refine opens_fields Tryz.underlying39 fun H enc W n cs hl hf => ?_
  rw [Tryz.cellsCLeg] at hl
  match cs, hl with
  | [c0, c1], _ =>
    obtain ⟨x0, h0⟩ := hf 0 _ 1 rfl Tryz.cellsIntC
    obtain ⟨a0, k0, o0⟩ := opensC_int H enc W _ _ _ h0
    replace k0 : denVs (kAll W) [c0] _ := k0
    obtain ⟨x1, h1⟩ := hf 1 _ 1 rfl Tryz.cellsIntC
    obtain ⟨a1, k1, o1⟩ := opensC_int H enc W _ _ _ h1
    replace k1 : denVs (kAll W) [c1] _ := k1
    exact ⟨⟨a0, a1⟩, (denVs.append k0 k1), o0, o1⟩
theorem Tryz.cellsCLegs : Tryz.prog.cellsOf 48 = 1 := by kernel_rfl
theorem opensC_Legs : Opens Tryz.prog 48 (rC (cSl 2 cLeg) (okSl okLeg)) := opens_sl Tryz.underlying48 Tryz.cellsCLeg (by decide) cLeg_len opensC_Leg
theorem Tryz.cellsCDebt : Tryz.prog.cellsOf 50 = 4 := by kernel_rfl
def okDebt (x : GDebt) : Prop := okRat x.whole ∧ okSl okLeg x.legs
set_option maxRecDepth 100000 in
theorem opensC_Debt : Opens Tryz.prog 50 (rC cDebt okDebt) := by
  refine opens_fields Tryz.underlying50 fun H enc W n cs hl hf => ?_
  rw [Tryz.cellsCDebt] at hl
  match cs, hl with
  | [c0, c1, c2, c3], _ =>
    obtain ⟨x0, h0⟩ := hf 0 _ 3 rfl Tryz.cellsRat
    obtain ⟨a0, k0, o0⟩ := opensC_rat H enc W _ _ _ h0
    replace k0 : denVs (kAll W) [c0, c1, c2] _ := k0
    obtain ⟨x1, h1⟩ := hf 1 _ 1 rfl Tryz.cellsCLegs
    obtain ⟨a1, k1, o1⟩ := opensC_Legs H enc W _ _ _ h1
    replace k1 : denVs (kAll W) [c3] _ := k1
    exact ⟨⟨a0, a1⟩, (denVs.append k0 k1), o0, o1⟩
theorem Tryz.cellsCDebts : Tryz.prog.cellsOf 28 = 1 := by kernel_rfl
theorem opensC_Debts : Opens Tryz.prog 28 (rC (cSl 4 cDebt) (okSl okDebt)) := opens_sl Tryz.underlying28 Tryz.cellsCDebt (by decide) cDebt_len opensC_Debt
theorem Tryz.cellsCGrp : Tryz.prog.cellsOf 30 = 2 := by kernel_rfl
def okGrp (x : GGrp) : Prop := okSl okEst x.ests ∧ okSl okDebt x.debts
set_option maxRecDepth 100000 in
theorem opensC_Grp : Opens Tryz.prog 30 (rC cGrp okGrp) := by
  refine opens_fields Tryz.underlying30 fun H enc W n cs hl hf => ?_
  rw [Tryz.cellsCGrp] at hl
  match cs, hl with
  | [c0, c1], _ =>
    obtain ⟨x0, h0⟩ := hf 0 _ 1 rfl Tryz.cellsCEsts
    obtain ⟨a0, k0, o0⟩ := opensC_Ests H enc W _ _ _ h0
    replace k0 : denVs (kAll W) [c0] _ := k0
    obtain ⟨x1, h1⟩ := hf 1 _ 1 rfl Tryz.cellsCDebts
    obtain ⟨a1, k1, o1⟩ := opensC_Debts H enc W _ _ _ h1
    replace k1 : denVs (kAll W) [c1] _ := k1
    exact ⟨⟨a0, a1⟩, (denVs.append k0 k1), o0, o1⟩
end Go.Proofs.YtogeijhepjcbgaaGreatDoor
end
section
/- slices.ContainsFunc at tiers, with the closure of waterfall.checkAgreement; walked by the abstract machine. -/
namespace Go.Proofs.YtogeijhepjcbgaaGreatDoor
open Go Go.RowKit

def longT (t : List GPart) : Bool := decide (24 < t.length)
/-- The place of the first long tier, from k on. -/
def idxT (ts : List (List GPart)) (k : Nat) : Int := match ts with
  | [] => -1
  | t :: ts => if longT t then (k : Int) else idxT ts (k + 1)
theorem idxT_ge (ts : List (List GPart)) (k : Nat) : decide (0 ≤ idxT ts k) = ts.any longT := by
  induction ts generalizing k with
  | nil => rfl
  | cons t ts ih =>
    simp only [idxT, List.any_cons]
    by_cases h : longT t = true
    · simp [h]
    · simp only [h, if_false]
      simpa using ih (k + 1)
def clos : C := .lit (.func (.func 115) #[] #[])

theorem waterfall_checkAgreement_1_el82 : elT Tryz.prog 82 = some (81, 5, 56) := by kernel_rfl
def F_waterfall_checkAgreement_1 := waterfall_checkAgreement_1_el82

theorem clos_A (t : List GPart) (h : t.length ≤ 1000000000000) : ACall Tryz.prog 115 [.one (.sh 5 t.length (flat cPart t))] (one (.bool (longT t))) := by
  unfold longT
  cases hl : decide (24 < t.length)
  · have hI : ¬ (24 : Int) < (t.length : Int) := by have := of_decide_eq_false hl; omega
    refine acall_of Tryz.func115 rfl (by decide) (N := 6) rfl (by simp) (R := [.tmp 2]) rfl fun en k0 => ?_
    repeat' (first | refine awp_seq ?_ | refine awp_block ?_)
    refine awp_region [] (gs := [none]) (by rfl) (by kernel_rfl) (by decide) ?_
    simp only [(id F_waterfall_checkAgreement_1), (id SS), seval, reduceIte, ne_eq]
    repeat' (first | refine awp_seq ?_ | refine awp_block ?_)
    refine awp_region [] (gs := [none, none, none, none]) (by rfl) (by kernel_rfl) (by decide) ?_
    simp only [(id F_waterfall_checkAgreement_1), (id SS), seval, reduceIte, ne_eq, hI]
    repeat' (first | refine awp_seq ?_ | refine awp_block ?_)
    refine awp_ret ?_
    simp only [(id F_waterfall_checkAgreement_1), (id SS), seval, reduceIte, ne_eq]
  · have hI : (24 : Int) < (t.length : Int) := by have := of_decide_eq_true hl; omega
    refine acall_of Tryz.func115 rfl (by decide) (N := 6) rfl (by simp) (R := [.tmp 2]) rfl fun en k0 => ?_
    repeat' (first | refine awp_seq ?_ | refine awp_block ?_)
    refine awp_region [] (gs := [none]) (by rfl) (by kernel_rfl) (by decide) ?_
    simp only [(id F_waterfall_checkAgreement_1), (id SS), seval, reduceIte, ne_eq]
    repeat' (first | refine awp_seq ?_ | refine awp_block ?_)
    refine awp_region [] (gs := [none, none, none, none]) (by rfl) (by kernel_rfl) (by decide) ?_
    simp only [(id F_waterfall_checkAgreement_1), (id SS), seval, reduceIte, ne_eq, hI]
    repeat' (first | refine awp_seq ?_ | refine awp_block ?_)
    refine awp_ret ?_
    simp only [(id F_waterfall_checkAgreement_1), (id SS), seval, reduceIte, ne_eq]

theorem idxF_ar83 : arT Tryz.prog 83 = none := by kernel_rfl
theorem idxF_el83 : elT Tryz.prog 83 = some (82, 1, 24) := by kernel_rfl
theorem idxF_ld82 : ldT Tryz.prog 82 = some (false, 1) := by kernel_rfl
def F_idxF := And.intro idxF_ar83 (And.intro idxF_el83 (idxF_ld82))

theorem IndexFunc_A (ts : List (List GPart)) (hn : ts.length ≤ 1000000000000) (ht : ∀ t ∈ ts, t.length ≤ 1000000000000) :
    ACall Tryz.prog 134 [.one (.sh 1 ts.length (flat cTier ts)), .one clos] (one (.int .i64 (idxT ts 0))) := by
  refine acall_of Tryz.func134 rfl (by decide) (N := 19) rfl (by simp) (R := [.tmp 4]) rfl fun en k0 => ?_
  repeat' (first | refine awp_seq ?_ | refine awp_block ?_)
  refine awp_region [] (gs := [none]) (by rfl) (by kernel_rfl) (by decide) ?_
  simp only [(id F_idxF), (id SS), seval, reduceIte, ne_eq]
  repeat' (first | refine awp_seq ?_ | refine awp_block ?_)
  refine awp_region [] (gs := [none, none, none]) (by rfl) (by kernel_rfl) (by decide) ?_
  simp only [(id F_idxF), (id SS), seval, reduceIte, ne_eq]
  refine awp_keep [0, 1, 7, 8] [] ?_
  simp only [Later, (id F_idxF), (id SS), seval, reduceIte, ne_eq]
  repeat' (first | refine awp_seq ?_ | refine awp_block ?_)
  refine awp_loopw (fun n st => ∃ k nx, k ≤ ts.length ∧ n = ts.length - k ∧ idxT (ts.drop k) k = idxT ts 0 ∧ st = ⟨mkT [(0, .val (.one (.sh 1 ts.length (flat cTier ts)))), (1, .val (.one clos)), (7, one (.int .i64 ts.length)), (8, one (.int .i64 k))], mkH [], nx, 0⟩) ts.length ⟨0, _, by omega, by omega, rfl, rfl⟩ ?_
  rintro n st ⟨k, nx, hk, rfl, hL, rfl⟩
  by_cases hlt : k < ts.length
  · have hI : (k : Int) < (ts.length : Int) := by omega
    have hat := flat_at cTier_len ts k hlt
    rw [List.drop_eq_getElem_cons hlt] at hL
    have hm := ht ts[k] (List.getElem_mem hlt)
    rw [Nat.mul_one] at hat
    generalize ts[k] = t at *
    have hC := clos_A t hm
    simp only [idxT] at hL
    cases hlo : longT t
    · rw [hlo] at hL hC
      repeat' (first | refine awp_seq ?_ | refine awp_block ?_)
      refine awp_region [] (gs := [none]) (by rfl) (by kernel_rfl) (by decide) ?_
      simp only [(id F_idxF), (id SS), seval, reduceIte, ne_eq, hI]
      repeat' (first | refine awp_seq ?_ | refine awp_block ?_)
      refine awp_cond true (by rfl) (fun _ => ?_) (fun h => by cases h)
      refine awp_skip ?_
      simp only [(id F_idxF), (id SS), seval, reduceIte, ne_eq]
      repeat' (first | refine awp_seq ?_ | refine awp_block ?_)
      refine awp_region [] (gs := [none, none]) (by rfl) (by kernel_rfl) (by decide) ?_
      simp only [(id F_idxF), (id SS), seval, reduceIte, ne_eq]
      repeat' (first | refine awp_seq ?_ | refine awp_block ?_)
      refine awp_region [] (gs := [none, none, none, none, none, none]) (by rfl) (by kernel_rfl) (by decide) ?_
      simp only [(id F_idxF), (id SS), seval, reduceIte, ne_eq, hat, cTier, clos]
      repeat (refine ⟨by first | omega | (simp only [List.length_cons]; omega), ?_⟩)
      refine ⟨flat_pure cPart_pure t, _, hC, rfl, ?_⟩
      simp only [Later, (id F_idxF), (id SS), seval, reduceIte, ne_eq]
      repeat' (first | refine awp_seq ?_ | refine awp_block ?_)
      refine awp_cond false (by rfl) (fun h => by cases h) (fun _ => ?_)
      refine awp_skip ?_
      simp only [(id F_idxF), (id SS), seval, reduceIte, ne_eq]
      repeat' (first | refine awp_seq ?_ | refine awp_block ?_)
      refine awp_region [] (gs := [none, none]) (by rfl) (by kernel_rfl) (by decide) ?_
      simp only [(id F_idxF), (id SS), seval, reduceIte, ne_eq]
      repeat (refine ⟨by first | omega | (simp only [List.length_cons]; omega), ?_⟩)
      refine ⟨_, wk_keep [0, 1, 7, 8] [], ts.length - (k + 1), by omega, k + 1, nx, by omega, rfl, ?_, ?_⟩
      · simpa using hL
      · simp only [(id F_idxF), (id SS), seval, reduceIte, ne_eq]
        try rfl
    · rw [hlo] at hL hC
      simp only [if_true] at hL
      repeat' (first | refine awp_seq ?_ | refine awp_block ?_)
      refine awp_region [] (gs := [none]) (by rfl) (by kernel_rfl) (by decide) ?_
      simp only [(id F_idxF), (id SS), seval, reduceIte, ne_eq, hI]
      repeat' (first | refine awp_seq ?_ | refine awp_block ?_)
      refine awp_cond true (by rfl) (fun _ => ?_) (fun h => by cases h)
      refine awp_skip ?_
      simp only [(id F_idxF), (id SS), seval, reduceIte, ne_eq]
      repeat' (first | refine awp_seq ?_ | refine awp_block ?_)
      refine awp_region [] (gs := [none, none]) (by rfl) (by kernel_rfl) (by decide) ?_
      simp only [(id F_idxF), (id SS), seval, reduceIte, ne_eq]
      repeat' (first | refine awp_seq ?_ | refine awp_block ?_)
      refine awp_region [] (gs := [none, none, none, none, none, none]) (by rfl) (by kernel_rfl) (by decide) ?_
      simp only [(id F_idxF), (id SS), seval, reduceIte, ne_eq, hat, cTier, clos]
      repeat (refine ⟨by first | omega | (simp only [List.length_cons]; omega), ?_⟩)
      refine ⟨flat_pure cPart_pure t, _, hC, rfl, ?_⟩
      simp only [Later, (id F_idxF), (id SS), seval, reduceIte, ne_eq]
      repeat' (first | refine awp_seq ?_ | refine awp_block ?_)
      refine awp_cond true (by rfl) (fun _ => ?_) (fun h => by cases h)
      repeat' (first | refine awp_seq ?_ | refine awp_block ?_)
      refine awp_region [] (gs := [none, none]) (by rfl) (by kernel_rfl) (by decide) ?_
      simp only [(id F_idxF), (id SS), seval, reduceIte, ne_eq]
      repeat' (first | refine awp_seq ?_ | refine awp_block ?_)
      refine awp_ret ?_
      simp only [(id F_idxF), (id SS), seval, reduceIte, ne_eq, ← hL]
  · obtain rfl : k = ts.length := by omega
    have hI : ¬ (ts.length : Int) < (ts.length : Int) := by omega
    rw [List.drop_length] at hL
    simp only [idxT] at hL
    repeat' (first | refine awp_seq ?_ | refine awp_block ?_)
    refine awp_region [] (gs := [none]) (by rfl) (by kernel_rfl) (by decide) ?_
    simp only [(id F_idxF), (id SS), seval, reduceIte, ne_eq, hI]
    repeat' (first | refine awp_seq ?_ | refine awp_block ?_)
    refine awp_cond false (by rfl) (fun h => by cases h) (fun _ => ?_)
    refine awp_exit ?_
    simp only [(id F_idxF), (id SS), seval, reduceIte, ne_eq]
    repeat' (first | refine awp_seq ?_ | refine awp_block ?_)
    refine awp_region [] (gs := [none]) (by rfl) (by kernel_rfl) (by decide) ?_
    simp only [(id F_idxF), (id SS), seval, reduceIte, ne_eq]
    repeat' (first | refine awp_seq ?_ | refine awp_block ?_)
    refine awp_ret ?_
    simp only [(id F_idxF), (id SS), seval, reduceIte, ne_eq, ← hL]


theorem ContainsFunc_A (ts : List (List GPart)) (hn : ts.length ≤ 1000000000000) (ht : ∀ t ∈ ts, t.length ≤ 1000000000000) :
    ACall Tryz.prog 114 [.one (.sh 1 ts.length (flat cTier ts)), .one clos] (one (.bool (ts.any longT))) := by
  have hI := IndexFunc_A ts hn ht
  rw [← idxT_ge ts 0]
  refine acall_of Tryz.func114 rfl (by decide) (N := 9) rfl (by simp) (R := [.tmp 4]) rfl fun en k0 => ?_
  repeat' (first | refine awp_seq ?_ | refine awp_block ?_)
  refine awp_region [] (gs := [none]) (by rfl) (by kernel_rfl) (by decide) ?_
  simp only [(id SS), seval, reduceIte, ne_eq]
  repeat' (first | refine awp_seq ?_ | refine awp_block ?_)
  refine awp_region [] (gs := [none, none, none, none, none]) (by rfl) (by kernel_rfl) (by decide) ?_
  simp only [(id SS), seval, reduceIte, ne_eq, clos]
  refine ⟨flat_pure cTier_pure ts, _, hI, rfl, ?_⟩
  simp only [Later, (id SS), seval, reduceIte, ne_eq]
  repeat' (first | refine awp_seq ?_ | refine awp_block ?_)
  refine awp_ret ?_
  simp only [(id SS), seval, reduceIte, ne_eq]

end Go.Proofs.YtogeijhepjcbgaaGreatDoor
end
