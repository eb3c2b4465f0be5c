/- The abstract machine: its state, and the operations that neither write nor make memory. No program in sight. -/
import Derived.Test.YtokmkopihhnggaaDrawM
set_option linter.unusedVariables false
set_option linter.unusedSimpArgs false
set_option linter.defProp false
set_option linter.unnecessarySimpa false
set_option linter.unusedSectionVars false
section
/- The abstract machine: its state, and the operations that neither write nor make memory. No program in sight. -/
namespace Go.Proofs.Ytokmkopihhnggaa
open Go Go.RowKit
structure St where
  tm : Nat → AV
  H : Hp
  nx : Nat
  nb : Nat
structure Rel (e : En) (k0 : Kx) (N : Nat) (st : St) (a : Act) (w : World) : Prop where
  ex : ∃ σ, RW e st.H st.nx σ w ∧ (∀ t, denA (kx e st.H st.nx σ w) (a.tmps.getD t undef) (st.tm t)) ∧ Ext k0 (kx e st.H st.nx σ w)
  df : a.defers = []
  sz : a.tmps.size = N
def litA : Value → AV
  | .agg cs => if cs.toList.all Value.oneCell' then .val (.agg (cs.toList.map .lit)) else .dead
  | .tuple _ => .dead
  | v => .val (.one (.lit v))
def ev (st : St) : Operand → AV
  | .tmp t => st.tm t
  | .const v => litA v
  | .func f => .val (.one (.lit (.func (.func f) #[] #[])))
  | _ => .dead
theorem denVs_lits (κ : Kx) : ∀ (l : List Value), l.all Value.oneCell' = true → denVs κ l (l.map .lit)
  | [], _ => trivial
  | v :: l, h => by
    simp only [List.all_cons, Bool.and_eq_true] at h
    exact ⟨by simp only [den]; exact ⟨trivial, h.1⟩, denVs_lits κ l h.2⟩
theorem denA_lit (κ : Kx) (v : Value) : denA κ v (litA v) := by
  cases v with
  | agg cs =>
    simp only [litA]
    split
    · rename_i h
      exact ⟨cs.toList, by simp, denVs_lits κ _ h⟩
    trivial
  | tuple _ => trivial
  | _ => simp only [litA, denA, den1, den]; exact ⟨trivial, rfl⟩
section
variable {e : En} {k0 : Kx} {N : Nat} {st : St} {a : Act} {w : World} {σ : Nat → Value} {κ : Kx}
theorem ev_den (h : ∀ t, denA κ (a.tmps.getD t undef) (st.tm t)) (x : Operand) : denA κ (a.eval x) (ev st x) := by
  cases x with
  | tmp t => exact h t
  | const v => exact denA_lit κ v
  | global g => trivial
  | func f => simp only [ev, denA, den1, den]; exact ⟨rfl, rfl⟩
theorem Rel.put {σ σ' : Nat → Value} {H' : Hp} {nx' : Nat} {w' : World} (hr : Rel e k0 N st a w) (hW : RW e H' nx' σ' w') (ht : ∀ t, denA (kx e st.H st.nx σ w) (a.tmps.getD t undef) (st.tm t)) (h0 : Ext k0 (kx e st.H st.nx σ w))
    (hx : Ext (kx e st.H st.nx σ w) (kx e H' nx' σ' w')) {v : Value} {x : AV} (hd : denA (kx e H' nx' σ' w') v x) (d : Nat) (hdN : d < N) :
    Rel e k0 N ⟨up st.tm d x, H', nx', st.nb⟩ (a.put (some d) v) w' := by
  refine ⟨⟨σ', hW, fun t => ?_, h0.trans hx⟩, hr.df, by simp [Act.put, hr.sz]⟩
  simp only [Act.put]
  by_cases htd : t = d
  · subst htd
    rw [up_same]
    have : t < a.tmps.size := by rw [hr.sz]; exact hdN
    simpa [this] using hd
  rw [up_ne _ _ htd]
  have hne : ¬ d = t := fun e => htd e.symm
  have := denA_ext hx (ht t)
  simpa [Array.getD_eq_getD_getElem?, Array.getElem?_setIfInBounds, hne] using this
theorem Rel.skip {σ σ' : Nat → Value} {H' : Hp} {nx' : Nat} {w' : World} (hr : Rel e k0 N st a w) (hW : RW e H' nx' σ' w') (ht : ∀ t, denA (kx e st.H st.nx σ w) (a.tmps.getD t undef) (st.tm t)) (h0 : Ext k0 (kx e st.H st.nx σ w))
    (hx : Ext (kx e st.H st.nx σ w) (kx e H' nx' σ' w')) (v : Value) : Rel e k0 N ⟨st.tm, H', nx', st.nb⟩ (a.put none v) w' :=
  ⟨⟨σ', hW, fun t => denA_ext hx (ht t), h0.trans hx⟩, hr.df, hr.sz⟩
theorem Rel.drew (hr : Rel e k0 N st a w) : Rel e k0 N st a w.drew := by
  obtain ⟨σ, h1, h2, h3⟩ := hr.ex
  obtain ⟨k1, k2⟩ := h1.keep (grownBy_drew w)
  exact ⟨⟨σ, k1, fun t => denA_ext k2 (h2 t), h3.trans k2⟩, hr.df, hr.sz⟩
end
def ldT (P : Program) (t : TypeId) : Option (Bool × Nat) :=
  match P.underlying t, P.info? t with
  | some (.struct _), some i => some (true, i.size)
  | some (.array _ _), some i => some (true, i.size)
  | some _, some i => some (false, i.size)
  | _, _ => none
def foT (P : Program) (t : TypeId) (f : Nat) : Option (Nat × TypeId) :=
  match P.underlying t with
  | some (.struct fs) => match fs[f]? with
    | some f => match P.info? f.type with
      | some i => if i.size = 0 then none else some (f.offset, f.type)
      | none => none
    | none => none
  | _ => none
def elT (P : Program) (t : TypeId) : Option (TypeId × Nat × Nat) :=
  match P.underlying t with
  | some (.slice e) => (P.info? e).map fun i => (e, i.size, i.bytes)
  | _ => none
def arT (P : Program) (t : TypeId) : Option (Nat × TypeId × Nat) :=
  match P.underlying t with
  | some (.array n e) => (P.info? e).map fun i => (n, e, i.size)
  | _ => none
section
variable {P : Program} {w : World}
theorem ldT_agg {t : TypeId} {n : Nat} (h : ldT P t = some (true, n)) (w : World) : (isAgg t).run P w = .ok true w ∧ (sizeOf t).run P w = .ok n w := by
  unfold ldT at h
  split at h <;> simp at h
  · rename_i h1 h2; subst h; constructor <;> simp [isAgg, sizeOf, underlying, typeInfo, h1, h2]
  rename_i h1 h2; subst h; constructor <;> simp [isAgg, sizeOf, underlying, typeInfo, h1, h2]
theorem ldT_one {t : TypeId} {n : Nat} (h : ldT P t = some (false, n)) (w : World) : (isAgg t).run P w = .ok false w ∧ (sizeOf t).run P w = .ok n w := by
  unfold ldT at h
  split at h <;> simp at h
  rename_i i d h1 h2 h3 h4
  subst h
  constructor
  · simp only [isAgg, underlying, Sem.run_bind, run_program, Result.andThen_ok, h3]
    cases d <;> simp_all
  simp [sizeOf, typeInfo, h4]
theorem foT_run {t : TypeId} {f off : Nat} {ft : TypeId} (h : foT P t f = some (off, ft)) (b o : Nat) (w : World) : (Instr.fieldAt t (.pointer (some ⟨b, o, none⟩)) f).run P w = .ok (.pointer (some ⟨b, o + off, none⟩)) w := by
  unfold foT at h
  split at h <;> try (simp at h; done)
  rename_i fs h1
  split at h <;> try (simp at h; done)
  rename_i fl h2
  split at h <;> try (simp at h; done)
  rename_i i h3
  split at h <;> try (simp at h; done)
  rename_i h4
  have h5 : fl.offset = off := by have := Option.some.inj h; exact congrArg Prod.fst this
  have hadd : (⟨b, o, none⟩ : Addr).add off = ⟨b, o + off, none⟩ := by unfold Addr.add; split <;> simp_all
  simp [Instr.fieldAt, underlying, h1, h2, Instr.sureAddr, fieldPlace, sizeOf, typeInfo, h3, h4, h5, hadd]
theorem elT_run {t e : TypeId} {sz by_ : Nat} (h : elT P t = some (e, sz, by_)) : P.underlying t = some (.slice e) ∧ ∃ i, P.info? e = some i ∧ i.size = sz ∧ i.bytes = by_ := by
  unfold elT at h
  split at h <;> try (simp at h; done)
  rename_i e' h1
  cases hi : P.info? e' with
  | none => rw [hi] at h; cases h
  | some i =>
    rw [hi] at h
    simp at h
    obtain ⟨rfl, rfl, rfl⟩ := h
    exact ⟨h1, i, hi, rfl, rfl⟩
theorem indexAt_run {t e : TypeId} {sz by_ : Nat} (h : elT P t = some (e, sz, by_)) (k : IntKind) (i : Int) (b o n cap : Nat) (h0 : 0 ≤ i) (h1 : i < n) (w : World) :
    (Instr.indexAt t (.slice (some ⟨b, o, none⟩) n cap) (.int k i)).run P w = .ok (.pointer (some ⟨b, o + i.toNat * sz, none⟩)) w := by
  obtain ⟨h2, j, h3, h4, h5⟩ := elT_run h
  have hadd : (⟨b, o, none⟩ : Addr).add (i.toNat * sz) = ⟨b, o + i.toNat * sz, none⟩ := by unfold Addr.add; split <;> simp_all
  simp [Instr.indexAt, asIntOf, underlying, h2, h0, h1, sizeOf, typeInfo, h3, h4, hadd]
end
def inK (k : IntKind) (n : Int) : Prop := k.min ≤ n ∧ n ≤ k.max
def eqV : Value → Value → Bool
  | .int _ a, .int _ b => decide (a = b)
  | .bool a, .bool b => a == b
  | .string a, .string b => decide (a = b)
  | _, _ => false
def eqVs : List Value → List Value → Bool
  | [], [] => true
  | a :: l, b :: m => eqV a b && eqVs l m
  | _, _ => false
def litsOf : List C → Option (List Value)
  | [] => some []
  | .lit v :: l => (litsOf l).map (v :: ·)
  | _ => none
def EqOK (P : Program) (t : TypeId) (xs ys : List Value) : Prop := ∀ w, (Op.equal t (.agg xs.toArray) (.agg ys.toArray)).run P w = .ok (eqVs xs ys) w ∧ ((Program.eqGuardType P P.depth t) = false)
def abin (P : Program) (op : BinOp) (t : TypeId) : Value → Value → Option (Prop × Value)
  | .int k a, .int k' b =>
    match op with
    | .shl => some (0 ≤ b, .int k (k.wrap (a * 2 ^ (min b.toNat k.bits))))
    | .shr => some (0 ≤ b, .int k (a.fdiv (2 ^ (min b.toNat k.bits))))
    | _ =>
    if k ≠ k' then none else
    match op with
    | .add => if k = .i64 then some (inK k (a + b), .int k (a + b)) else some (True, .int k (k.wrap (a + b)))
    | .sub => if k = .i64 then some (inK k (a - b), .int k (a - b)) else some (True, .int k (k.wrap (a - b)))
    | .mul => if k = .i64 then some (inK k (a * b), .int k (a * b)) else some (True, .int k (k.wrap (a * b)))
    | .quo => some (b ≠ 0, .int k (k.wrap (a.tdiv b)))
    | .rem => some (b ≠ 0, .int k (a.tmod b))
    | .and => some (True, .int k (k.wrap (BitVec.ofInt k.bits a &&& BitVec.ofInt k.bits b).toNat))
    | .or => some (True, .int k (k.wrap (BitVec.ofInt k.bits a ||| BitVec.ofInt k.bits b).toNat))
    | .eql => some (True, .bool (decide (a = b)))
    | .neq => some (True, .bool (!decide (a = b)))
    | .lss => some (True, .bool (decide (a < b)))
    | .leq => some (True, .bool (decide (a ≤ b)))
    | .gtr => some (True, .bool (decide (b < a)))
    | .geq => some (True, .bool (decide (b ≤ a)))
    | _ => none
  | .string a, .string b =>
    match op with
    | .eql => some (True, .bool (decide (a = b)))
    | .neq => some (True, .bool (!decide (a = b)))
    | _ => none
  | .bool a, .bool b =>
    match op with
    | .eql => some (P.underlying t = some .bool, .bool (a == b))
    | .neq => some (P.underlying t = some .bool, .bool (!(a == b)))
    | _ => none
  | _, _ => none
theorem wrap_in {n : Int} (h : inK .i64 n) : IntKind.i64.wrap n = n := by
  have h1 : IntKind.i64.min = -9223372036854775808 := by decide
  have h2 : IntKind.i64.max = 9223372036854775807 := by decide
  unfold inK at h
  rw [h1, h2] at h
  rw [IntKind.wrap_i64]; omega
theorem strEq (a b : ByteArray) : (a.toList == b.toList) = decide (a = b) := by
  rw [Bool.eq_iff_iff]
  simp only [beq_iff_eq, decide_eq_true_eq, ByteArray.toList_eq]
  constructor
  · intro h
    cases a; cases b
    simp only [ByteArray.mk.injEq]
    exact Array.toList_inj.1 h
  rintro rfl; rfl
theorem abin_run {P : Program} {op : BinOp} {t : TypeId} {x y : Operand} {u v r : Value} {p : Prop} (h : abin P op t u v = some (p, r)) (hp : p) (w : World) :
    ((eqGuard op t x y u v >>= fun _ => binOp op t u v).run P w) = .ok r w ∧ r.oneCell' = true := by
  cases u <;> try (simp only [abin] at h; cases h; done)
  · rename_i a
    cases v <;> try (simp only [abin] at h; cases h; done)
    rename_i b
    rw [eqGuard_at_bool]
    cases op <;> simp only [abin] at h <;> try (cases h; done)
    all_goals
      simp only [Option.some.injEq, Prod.mk.injEq] at h
      obtain ⟨rfl, rfl⟩ := h
      refine ⟨?_, rfl⟩
      have hu : P.underlying t = some .bool := hp
      have key : ∀ d, (Op.equalIn (d + 1) t (.bool a) (.bool b)).run P w = .ok (a == b) w := fun d => by simp [Op.equalIn, underlying, hu]
      have : (Op.equalIn Op.maxDepth t (.bool a) (.bool b)).run P w = .ok (a == b) w := key 9999
      simp [binOp, Op.equal, this]
  · rename_i k a
    cases v <;> try (simp only [abin] at h; cases h; done)
    rename_i k' b
    rw [eqGuard_at_int]
    have hw : ∀ n, inK .i64 n → IntKind.i64.wrap n = n := fun n => wrap_in
    by_cases hk : k = k'
    · subst hk
      cases op <;> simp only [abin, ne_eq, not_true_eq_false, if_false] at h <;> try (cases h; done)
      all_goals try (split at h; rename_i hk2; subst hk2)
      all_goals (simp only [Option.some.injEq, Prod.mk.injEq] at h; obtain ⟨rfl, rfl⟩ := h; refine ⟨?_, rfl⟩)
      all_goals first
        | (simp [binOp, Op.intArith, hw _ hp]; done)
        | (simp [binOp, Op.intArith]; done)
        | (have hp' : ¬ b = 0 := hp
           simp [binOp, Op.intDiv, hp']; done)
        | (have hp' : ¬ b < 0 := by simpa using hp
           simp [binOp, Op.shift, hp']; done)
        | (simp [binOp, Op.intBits]; done)
        | (simp [binOp, Op.intCmp]; done)
        | (simp [binOp, Op.intCmp]; rfl)
    cases op <;> simp only [abin, ne_eq, hk, not_false_eq_true, if_true] at h <;> try (cases h; done)
    all_goals
      simp only [Option.some.injEq, Prod.mk.injEq] at h
      obtain ⟨rfl, rfl⟩ := h
      refine ⟨?_, rfl⟩
      have hp' : ¬ b < 0 := by simpa using hp
      simp [binOp, Op.shift, hp']
  rename_i a
  cases v <;> try (simp only [abin] at h; cases h; done)
  rename_i b
  rw [eqGuard_at_string]
  cases op <;> simp only [abin] at h <;> try (cases h; done)
  all_goals simp only [Option.some.injEq, Prod.mk.injEq] at h
  · obtain ⟨rfl, rfl⟩ := h
    refine ⟨?_, rfl⟩
    simp only [Sem.run_bind, Sem.run_pure, Result.andThen_ok]
    rw [binOp_string_eql, strEq]; rfl
  obtain ⟨rfl, rfl⟩ := h
  refine ⟨?_, rfl⟩
  simp only [Sem.run_bind, Sem.run_pure, Result.andThen_ok]
  rw [binOp_string_neq, strEq]; rfl
end Go.Proofs.Ytokmkopihhnggaa
end
section
/- The abstract machine: operations that neither write nor make memory: what they yield. No program in sight. -/
namespace Go.Proofs.Ytokmkopihhnggaa
open Go Go.RowKit
abbrev one (v : Value) : AV := .val (.one (.lit v))
def cut (ag : Bool) (sz off : Nat) (cs : List C) : AV :=
  if ag then .val (.agg ((cs.drop off).take sz)) else match cs[off]? with
    | some c => .val (.one c)
    | none => .dead
def bnd (st : St) (x : Option Operand) (d : Nat) : Option (Prop × Nat) :=
  match x with
  | none => some (True, d)
  | some x => match ev st x with
    | .val (.one (.lit (.int _ i))) => some (0 ≤ i, i.toNat)
    | _ => none
def lenA : AV → Option Nat
  | .val (.one (.own _ _ n _)) => some n
  | .val (.one (.sh _ n _)) => some n
  | .val (.one (.lit (.slice _ n _))) => some n
  | _ => none
def stillAddr (P : Program) (st : St) : Op → Option (Prop × AV)
  | .fieldAddr s x f => match ev st x, foT P s f with
    | .val (.one (.ptr nm s' off)), some (o, _) => some (∃ B, st.H nm = some B ∧ B.st = s', .val (.one (.ptr nm s' (off + o))))
    | .val (.one (.sp cs)), some (o, _) => some (True, .val (.one (.sp (cs.drop o))))
    | _, _ => none
  | .indexAddr t x ix => match ev st x, ev st ix, elT P t, arT P t with
    | .val (.one (.own nm s' n sz)), .val (.one (.lit (.int _ i))), some (_, sz', _), _ => some (sz = sz' ∧ 0 ≤ i ∧ i < n ∧ ∃ B, st.H nm = some B ∧ B.st = s', .val (.one (.ptr nm s' (i.toNat * sz))))
    | .val (.one (.sh sz n cs)), .val (.one (.lit (.int _ i))), some (_, sz', _), _ => some (sz = sz' ∧ 0 ≤ i ∧ i < n, .val (.one (.sp (cs.drop (i.toNat * sz)))))
    | .val (.one (.ptr nm s' off)), .val (.one (.lit (.int _ i))), _, some (n, _, sz) => some (0 ≤ i ∧ i < n ∧ ∃ B, st.H nm = some B ∧ B.st = s', .val (.one (.ptr nm s' (off + i.toNat * sz))))
    | .val (.one (.sp cs)), .val (.one (.lit (.int _ i))), _, some (n, _, sz) => some (0 ≤ i ∧ i < n, .val (.one (.sp (cs.drop (i.toNat * sz)))))
    | _, _, _, _ => none
  | .load t x => match ev st x, ldT P t with
    | .val (.one (.ptr nm s' off)), some (ag, sz) => match st.H nm with
      | some B => some (B.st = s' ∧ off + sz ≤ B.cs.length ∧ (ag = true ∨ sz = 1), cut ag sz off B.cs)
      | none => none
    | .val (.one (.sp cs)), some (ag, sz) => some (sz ≤ cs.length ∧ (ag = true ∨ sz = 1), cut ag sz 0 cs)
    | _, _ => none
  | .nilCheck x => match ev st x with
    | .val (.one (.ptr nm s' off)) => some (∃ B, st.H nm = some B ∧ B.st = s', .val (.one (.ptr nm s' off)))
    | .val (.one (.sp cs)) => some (True, .val (.one (.sp cs)))
    | _ => none
  | _ => none
def stillVal (P : Program) (st : St) : Op → Option (Prop × AV)
  | .move x => some (True, ev st x)
  | .assign x => some (True, ev st x)
  | .pick c x y => match ev st c with
    | .val (.one (.lit (.bool t))) => some (True, if t then ev st x else ev st y)
    | _ => none
  | .field xt x f => match ev st x, foT P xt f with
    | .val (.agg cs), some (o, ft) => match ldT P ft with
      | some (ag, sz) => some (o + sz ≤ cs.length ∧ (ag = true ∨ sz = 1), cut ag sz o cs)
      | none => none
    | _, _ => none
  | .extract x i => match ev st x with
    | .tup l => match l[i]? with
      | some a => some (True, .val a)
      | none => none
    | _ => none
  | .binOp op t x y _ => match ev st x, ev st y with
    | .val (.one (.lit u)), .val (.one (.lit v)) => match abin P op t u v with
      | some (p, r) => some (p, one r)
      | none => none
    | .val (.agg xs), .val (.agg ys) => match litsOf xs, litsOf ys with
      | some us, some vs => match op with
        | .eql => some (EqOK P t us vs, one (.bool (eqVs us vs)))
        | .neq => some (EqOK P t us vs, one (.bool (!eqVs us vs)))
        | _ => none
      | _, _ => none
    | _, _ => none
  | .unOp .not _ x => match ev st x with
    | .val (.one (.lit (.bool t))) => some (True, one (.bool (!t)))
    | _ => none
  | .unOp .neg _ x => match ev st x with
    | .val (.one (.lit (.int k n))) => if k = .i64 then some (inK k (0 - n), one (.int k (0 - n))) else some (True, one (.int k (k.wrap (0 - n))))
    | _ => none
  | .convert s d x => match ev st x, P.underlying d with
    | .val (.one (.lit (.int _ n))), some (.int k) => if k = .i64 then some (inK .i64 n ∧ (P.underlying s).isSome = true, one (.int .i64 n)) else some ((P.underlying s).isSome = true, one (.int k (k.wrap n)))
    | _, _ => none
  | .index t x ix => match ev st x, ev st ix with
    | .val (.one (.lit (.string s))), .val (.one (.lit (.int _ i))) => some (P.underlying t = some .string ∧ 0 ≤ i ∧ i < s.size, one (.int .u8 (s.data.toList.getD i.toNat 0).toNat))
    | .val (.agg cs), .val (.one (.lit (.int _ i))) => match arT P t with
      | some (n, e, sz) => match ldT P e with
        | some (ag, sz') => some (0 ≤ i ∧ i < n ∧ sz' = sz ∧ i.toNat * sz + sz ≤ cs.length ∧ (ag = true ∨ sz = 1), cut ag sz (i.toNat * sz) cs)
        | none => none
      | none => none
    | _, _ => none
  | .slice t x lo hi none => match ev st x with
    | .val (.one (.sh sz n cs)) => match elT P t, bnd st lo 0, bnd st hi n with
      | some (_, sz', _), some (p1, l), some (p2, h) => some (sz = sz' ∧ p1 ∧ p2 ∧ l ≤ h ∧ h ≤ n, .val (.one (.sh sz (h - l) ((cs.drop (l * sz)).take ((h - l) * sz)))))
      | _, _, _ => none
    | .val (.one (.lit (.string s))) => match bnd st lo 0, bnd st hi s.size with
      | some (p1, l), some (p2, h) => some (P.underlying t = some .string ∧ p1 ∧ p2 ∧ l ≤ h ∧ h ≤ s.size, one (.string (s.extract l h)))
      | _, _ => none
    | _ => none
  | _ => none
def stillCall (P : Program) (st : St) (c : Call) : Option (Prop × AV) :=
  match c.callee with
  | .builtin .len => match c.args.toList, c.argTypes.toList with
    | [x], [t] => match ev st x with
      | .val (.one (.lit (.string s))) => some (P.underlying t = some .string, one (.int .i64 s.size))
      | _ => match lenA (ev st x), elT P t with
        | some n, some _ => some (match ev st x with
          | .val (.one (.own nm s' _ sz)) => sz ≠ 0 ∧ ∃ B, st.H nm = some B ∧ B.st = s'
          | _ => True, one (.int .i64 n))
        | _, _ => none
    | _, _ => none
  | _ => none
def still (P : Program) (st : St) (op : Op) : Option (Prop × AV) :=
  match op with
  | .fieldAddr .. | .indexAddr .. | .load .. | .nilCheck .. => stillAddr P st op
  | .call c => stillCall P st c
  | op => stillVal P st op
def Yl (P : Program) (o : Oper) (a : Act) (w : World) (κ : Kx) (x : AV) : Prop :=
  ∃ v, (∀ w', FL w w' ∨ reads o.op = false → (execOp a.eval o).run P w' = .ok (.value v) w') ∧ denA κ v x
theorem arT_run {P : Program} {t e : TypeId} {n sz : Nat} (h : arT P t = some (n, e, sz)) : P.underlying t = some (.array n e) ∧ ∃ i, P.info? e = some i ∧ i.size = sz := by
  unfold arT at h
  split at h <;> try (simp at h; done)
  rename_i n' e' h1
  cases hi : P.info? e' with
  | none => rw [hi] at h; cases h
  | some i =>
    rw [hi] at h
    simp at h
    obtain ⟨rfl, rfl, rfl⟩ := h
    exact ⟨h1, i, hi, rfl⟩
theorem arrAt_run {P : Program} {t e : TypeId} {n sz : Nat} (h : arT P t = some (n, e, sz)) (k : IntKind) (i : Int) (b o : Nat) (h0 : 0 ≤ i) (h1 : i < n) (w : World) :
    (Instr.indexAt t (.pointer (some ⟨b, o, none⟩)) (.int k i)).run P w = .ok (.pointer (some ⟨b, o + i.toNat * sz, none⟩)) w := by
  obtain ⟨h2, j, h3, h4⟩ := arT_run h
  have hadd : (⟨b, o, none⟩ : Addr).add (i.toNat * sz) = ⟨b, o + i.toNat * sz, none⟩ := by unfold Addr.add; split <;> simp_all
  simp [Instr.indexAt, asIntOf, Instr.sureAddr, underlying, h2, h0, h1, sizeOf, typeInfo, h3, h4, hadd]
section
variable {P : Program} {e : En} {N : Nat} {st : St} {a : Act} {w : World} {σ : Nat → Value} {o : Oper} {p : Prop} {x : AV}
theorem own_ptr (hW : RW e st.H st.nx σ w) {nm s' off : Nat} {v : Value} (hv : denA (kx e st.H st.nx σ w) v (.val (.one (.ptr nm s' off)))) {B : Blk} (hB : st.H nm = some B) (hs : B.st = s') :
    ∃ b, (σ nm).ownBlock = some b ∧ v = .pointer (some ⟨b, off, none⟩) ∧ ∃ xs, w.ownsRow e.w0.heap.size B.E B.sz (σ nm) B.n xs ∧ denVs (kx e st.H st.nx σ w) xs B.cs := by
  simp only [denA, den1, den] at hv
  obtain ⟨b, h1, h2⟩ := hv.2.2 B hB hs
  obtain ⟨_, _, xs, h3, h4⟩ := hW.rowOf hB (.inr (.inr ⟨b, h1⟩))
  exact ⟨b, h1, h2, xs, h3, h4⟩
theorem cell_FL {w w' : World} (h : FL w w') {q : Addr} {v : Value} (hc : w.cell? q = some v) : w'.cell? q = some v := by
  rw [FL.cell h (by rw [hc]; rfl)]; exact hc
theorem add_lit (b o n : Nat) : (⟨b, o, none⟩ : Addr).add n = ⟨b, o + n, none⟩ := by unfold Addr.add; split <;> simp_all
theorem load_at {w : World} {κ : Kx} {t : TypeId} {ag : Bool} {sz b off k : Nat} {us : List Value} {cs : List C} (hl : ldT P t = some (ag, sz)) (hd : denVs κ us cs) (hk : k + sz ≤ cs.length) (ha : ag = true ∨ sz = 1)
    (hc : ∀ j u, us[j]? = some u → w.cell? ⟨b, off + j, none⟩ = some u) :
    ∃ v, (∀ w', FL w w' → (Instr.loadAt t (.pointer (some ⟨b, off + k, none⟩))).run P w' = .ok v w') ∧ denA κ v (cut ag sz k cs) := by
  have hlen := hd.length
  cases ag with
  | true =>
    refine ⟨.agg ((us.drop k).take sz).toArray, fun w' hF => ?_, ?_⟩
    · have hsz : ((us.drop k).take sz).length = sz := by simp; omega
      have h1 := run_loadCells_list (P := P) w' ⟨b, off + k, none⟩ ((us.drop k).take sz) (fun j v hv => by
        rw [add_lit]
        have hj : j < sz := by
          have := (List.getElem?_eq_some_iff.1 hv).1; omega
        rw [List.getElem?_take, if_pos hj, List.getElem?_drop] at hv
        have := hc (k + j) v hv
        rw [← Nat.add_assoc] at this
        exact cell_FL hF this)
      rw [hsz] at h1
      simp [Instr.loadAt, Instr.sureAddr, loadVar, (ldT_agg hl w').1, (ldT_agg hl w').2, h1]
    simp only [cut, if_true, denA, den1]
    exact ⟨_, rfl, (hd.drop k).take sz⟩
  | false =>
    obtain rfl : sz = 1 := by simpa using ha
    have hk' : k < cs.length := by omega
    obtain ⟨u, h1, h2⟩ := hd.get k (List.getElem?_eq_getElem hk')
    refine ⟨u, fun w' hF => ?_, ?_⟩
    · have := cell_FL hF (hc k u h1)
      simp [Instr.loadAt, Instr.sureAddr, loadVar, (ldT_one hl w').1, this]
    simp only [cut, List.getElem?_eq_getElem hk', denA, den1]
    simpa using h2
theorem stillAddr_ok (hW : RW e st.H st.nx σ w) (ht : ∀ t, denA (kx e st.H st.nx σ w) (a.tmps.getD t undef) (st.tm t)) (h : stillAddr P st o.op = some (p, x)) (hp : p) : Yl P o a w (kx e st.H st.nx σ w) x := by
  generalize hop : o.op = op at h
  cases op <;> simp only [stillAddr] at h <;> try (cases h; done)
  case load t y =>
    have hy := ev_den ht y
    split at h <;> try (cases h; done)
    · rename_i nm s' off ag sz hey hl
      rw [hey] at hy
      split at h <;> try (cases h; done)
      rename_i B hB
      simp only [Option.some.injEq, Prod.mk.injEq] at h
      obtain ⟨rfl, rfl⟩ := h
      obtain ⟨hs, hk, ha⟩ := hp
      obtain ⟨b, h1, h2, xs, h3, h4⟩ := own_ptr hW hy hB hs
      obtain ⟨v, h5, h6⟩ := load_at (P := P) (w := w) (b := b) (off := 0) hl h4 hk ha (fun j u hu => by have := h3.cells h1 j u hu; rwa [add_lit] at this)
      refine ⟨v, fun w' hF => ?_, h6⟩
      have := h5 w' (hF.resolve_right (by simp [reads, hop]))
      rw [Nat.zero_add] at this
      simp only [execOp, hop, h2, Sem.run_bind, this, Result.andThen_ok, Sem.run_pure]
    rename_i cs ag sz hey hl
    rw [hey] at hy
    simp only [Option.some.injEq, Prod.mk.injEq] at h
    obtain ⟨rfl, rfl⟩ := h
    obtain ⟨hk, ha⟩ := hp
    simp only [denA, den1, den] at hy
    obtain ⟨b, off, h1, h2, h3⟩ := hy
    obtain ⟨us, h4, h5⟩ := h3.vals
    obtain ⟨v, h6, h7⟩ := load_at (P := P) (w := w) (b := b) (off := off) hl h4 (k := 0) (by omega) ha h5
    refine ⟨v, fun w' hF => ?_, h7⟩
    have := h6 w' (hF.resolve_right (by simp [reads, hop]))
    rw [Nat.add_zero] at this
    simp only [execOp, hop, h1, Sem.run_bind, this, Result.andThen_ok, Sem.run_pure]
  case nilCheck y =>
    have hy := ev_den ht y
    split at h <;> try (cases h; done)
    · rename_i nm s' off hey
      rw [hey] at hy
      simp only [Option.some.injEq, Prod.mk.injEq] at h
      obtain ⟨rfl, rfl⟩ := h
      obtain ⟨B, hB, hs⟩ := hp
      obtain ⟨b, h1, h2, _⟩ := own_ptr hW hy hB hs
      refine ⟨_, fun w' hF => ?_, hy⟩
      simp [execOp, hop, h2]
    rename_i cs hey
    rw [hey] at hy
    simp only [Option.some.injEq, Prod.mk.injEq] at h
    obtain ⟨rfl, rfl⟩ := h
    have hy' := hy
    simp only [denA, den1, den] at hy'
    obtain ⟨b, off, h1, _⟩ := hy'
    refine ⟨_, fun w' hF => ?_, hy⟩
    simp [execOp, hop, h1]
  case fieldAddr s y f =>
    have hy := ev_den ht y
    split at h <;> try (cases h; done)
    · rename_i nm s' off o' ft hey hf
      rw [hey] at hy
      simp only [Option.some.injEq, Prod.mk.injEq] at h
      obtain ⟨rfl, rfl⟩ := h
      obtain ⟨B, hB, hs⟩ := hp
      obtain ⟨b, h1, h2, _⟩ := own_ptr hW hy hB hs
      refine ⟨.pointer (some ⟨b, off + o', none⟩), fun w' hF => ?_, ?_⟩
      · simp only [execOp, hop, h2, Sem.run_bind, foT_run hf, Result.andThen_ok, Sem.run_pure]
      simp only [denA, den1, den] at hy ⊢
      exact ⟨rfl, hy.2.1, fun B' hB' hs' => ⟨b, h1, rfl⟩⟩
    rename_i cs o' ft hey hf
    rw [hey] at hy
    simp only [Option.some.injEq, Prod.mk.injEq] at h
    obtain ⟨rfl, rfl⟩ := h
    simp only [denA, den1, den] at hy
    obtain ⟨b, off, h1, h2, h3⟩ := hy
    refine ⟨.pointer (some ⟨b, off + o', none⟩), fun w' hF => ?_, ?_⟩
    · simp only [execOp, hop, h1, Sem.run_bind, foT_run hf, Result.andThen_ok, Sem.run_pure]
    simp only [denA, den1, den]
    exact ⟨b, off + o', rfl, h2, h3.drop o'⟩
  case indexAddr t y ix =>
    have hy := ev_den ht y
    have hx := ev_den ht ix
    split at h <;> try (cases h; done)
    · rename_i nm s' n sz k i e' sz' by_ hey hex hl
      rw [hey] at hy
      rw [hex] at hx
      simp only [Option.some.injEq, Prod.mk.injEq] at h
      obtain ⟨rfl, rfl⟩ := h
      obtain ⟨rfl, h0, h1, B, hB, hs⟩ := hp
      simp only [denA, den1, den] at hy hx
      obtain ⟨h2, h3, h4⟩ := hy.2.2 B hB hs
      obtain ⟨_, _, xs, h5, h6⟩ := hW.rowOf hB (.inr (.inl (by omega)))
      have h2' : a.eval y = σ nm := h2
      rcases h5.2 with ⟨h7, h8⟩ | ⟨g, cap, cur, h7, _⟩
      · omega
      have h7' : σ nm = .slice (some ⟨g, 0, none⟩) B.n cap := h7
      refine ⟨.pointer (some ⟨g, i.toNat * sz, none⟩), fun w' hF => ?_, ?_⟩
      · have := indexAt_run (P := P) hl k i g 0 B.n cap h0 (by omega) w'
        rw [Nat.zero_add] at this
        simp only [execOp, hop, h2', h7', hx.1, Sem.run_bind, this, Result.andThen_ok, Sem.run_pure]
      simp only [denA, den1, den]
      refine ⟨rfl, hy.2.1, fun B' hB' hs' => ⟨g, ?_, rfl⟩⟩
      show (σ nm).ownBlock = some g
      rw [h7']; rfl
    · rename_i sz n cs k i e' sz' by_ hey hex hl
      rw [hey] at hy
      rw [hex] at hx
      simp only [Option.some.injEq, Prod.mk.injEq] at h
      obtain ⟨rfl, rfl⟩ := h
      obtain ⟨rfl, h0, h1⟩ := hp
      simp only [denA, den1, den] at hy hx
      obtain ⟨ad, cap, h2, h3, h4, h5, h6, h7⟩ := hy
      rcases h7 with h7 | ⟨b, off, rfl, h8, h9⟩
      · omega
      refine ⟨.pointer (some ⟨b, off + i.toNat * sz, none⟩), fun w' hF => ?_, ?_⟩
      · simp only [execOp, hop, h2, hx.1, Sem.run_bind, indexAt_run hl k i b off n cap h0 h1, Result.andThen_ok, Sem.run_pure]
      simp only [denA, den1, den]
      exact ⟨b, _, rfl, h8, h9.drop _⟩
    · rename_i nm s' off k i n e' sz hey hex hl
      rw [hey] at hy
      rw [hex] at hx
      simp only [Option.some.injEq, Prod.mk.injEq] at h
      obtain ⟨rfl, rfl⟩ := h
      obtain ⟨h0, h1, B, hB, hs⟩ := hp
      obtain ⟨b, h2, h3, _⟩ := own_ptr hW hy hB hs
      simp only [denA, den1, den] at hx
      refine ⟨.pointer (some ⟨b, off + i.toNat * sz, none⟩), fun w' hF => ?_, ?_⟩
      · simp only [execOp, hop, h3, hx.1, Sem.run_bind, arrAt_run hl k i b off h0 h1, Result.andThen_ok, Sem.run_pure]
      simp only [denA, den1, den] at hy ⊢
      exact ⟨rfl, hy.2.1, fun B' hB' hs' => ⟨b, h2, rfl⟩⟩
    rename_i cs k i n e' sz hey hex hl
    rw [hey] at hy
    rw [hex] at hx
    simp only [Option.some.injEq, Prod.mk.injEq] at h
    obtain ⟨rfl, rfl⟩ := h
    obtain ⟨h0, h1⟩ := hp
    simp only [denA, den1, den] at hy hx
    obtain ⟨b, off, h2, h3, h4⟩ := hy
    refine ⟨.pointer (some ⟨b, off + i.toNat * sz, none⟩), fun w' hF => ?_, ?_⟩
    · simp only [execOp, hop, h2, hx.1, Sem.run_bind, arrAt_run hl k i b off h0 h1, Result.andThen_ok, Sem.run_pure]
    simp only [denA, den1, den]
    exact ⟨b, _, rfl, h3, h4.drop _⟩
theorem part_at {κ : Kx} {t : TypeId} {ag : Bool} {sz k : Nat} {us : List Value} {cs : List C} (hl : ldT P t = some (ag, sz)) (hd : denVs κ us cs) (hk : k + sz ≤ cs.length) (ha : ag = true ∨ sz = 1) :
    ∃ v, (∀ w', (part t us.toArray k).run P w' = .ok v w') ∧ denA κ v (cut ag sz k cs) := by
  have hlen := hd.length
  cases ag with
  | true =>
    refine ⟨.agg ((us.drop k).take sz).toArray, fun w' => ?_, ?_⟩
    · have : us.toArray.extract k (k + sz) = ((us.drop k).take sz).toArray := by
        simp
      simp only [part, Sem.run_bind, (ldT_agg hl w').1, Result.andThen_ok, if_true, (ldT_agg hl w').2, Sem.run_pure, this]
    simp only [cut, if_true, denA, den1]
    exact ⟨_, rfl, (hd.drop k).take sz⟩
  | false =>
    obtain rfl : sz = 1 := by simpa using ha
    have hk' : k < cs.length := by omega
    obtain ⟨u, h1, h2⟩ := hd.get k (List.getElem?_eq_getElem hk')
    refine ⟨u, fun w' => ?_, ?_⟩
    · simp [part, (ldT_one hl w').1, h1]
    simp only [cut, List.getElem?_eq_getElem hk', denA, den1]
    simpa using h2
theorem litsOf_den {κ : Kx} : ∀ {cs : List C} {us vs : List Value}, litsOf cs = some us → denVs κ vs cs → vs = us
  | [], us, vs, h, d => by
    simp [litsOf] at h
    subst h
    exact List.eq_nil_of_length_eq_zero d.length
  | c :: cs, us, [], h, d => d.elim
  | .lit v :: cs, us, u :: vs, h, d => by
    simp only [litsOf, Option.map_eq_some_iff] at h
    obtain ⟨l, h1, rfl⟩ := h
    have h2 := d.1
    simp only [den] at h2
    rw [litsOf_den h1 d.2, h2.1]
  | .sh .. :: _, _, _ :: _, h, _ => by simp [litsOf] at h
  | .own .. :: _, _, _ :: _, h, _ => by simp [litsOf] at h
  | .ptr .. :: _, _, _ :: _, h, _ => by simp [litsOf] at h
  | .sp .. :: _, _, _ :: _, h, _ => by simp [litsOf] at h
  | .dead :: _, _, _ :: _, h, _ => by simp [litsOf] at h
theorem eqGuard_false {op : BinOp} {t : TypeId} {x y : Operand} {us vs : Array Value} (h : P.eqGuardType P.depth t = false) (w : World) : (eqGuard op t x y (.agg us) (.agg vs)).run P w = .ok () w := by
  cases op <;> simp [eqGuard, h]
theorem bnd_ok (ht : ∀ t, denA (kx e st.H st.nx σ w) (a.tmps.getD t undef) (st.tm t)) {y : Option Operand} {d n : Nat} (h : bnd st y d = some (p, n)) (hp : p) :
    (y = none ∧ n = d) ∨ ∃ z k, y = some z ∧ a.eval z = .int k (n : Int) := by
  unfold bnd at h
  split at h
  · simp at h; exact .inl ⟨rfl, h.2.symm⟩
  rename_i z
  have hz := ev_den ht z
  split at h <;> try (cases h; done)
  rename_i k i hez
  rw [hez] at hz
  simp only [Option.some.injEq, Prod.mk.injEq] at h
  obtain ⟨rfl, rfl⟩ := h
  simp only [denA, den1, den] at hz
  exact .inr ⟨z, k, rfl, by rw [hz.1]; congr 1; exact (Int.toNat_of_nonneg hp).symm⟩
end
end Go.Proofs.Ytokmkopihhnggaa
end
section
/- The abstract machine: operations that neither write nor make memory: what they yield (the rest). No program in sight. -/
namespace Go.Proofs.Ytokmkopihhnggaa
open Go Go.RowKit
section
variable {P : Program} {e : En} {N : Nat} {st : St} {a : Act} {w : World} {σ : Nat → Value} {o : Oper} {p : Prop} {x : AV}
theorem field_run {t : TypeId} {f off : Nat} {ft : TypeId} (h : foT P t f = some (off, ft)) (us : Array Value) (w : World) : (Instr.field t (.agg us) f).run P w = (part ft us off).run P w := by
  unfold foT at h
  split at h <;> try (simp at h; done)
  rename_i fs h1
  split at h <;> try (simp at h; done)
  rename_i fl h2
  split at h <;> try (simp at h; done)
  rename_i i h3
  split at h <;> try (simp at h; done)
  have h5 := Option.some.inj h
  have h6 : fl.offset = off := congrArg Prod.fst h5
  have h7 : fl.type = ft := congrArg Prod.snd h5
  simp [Instr.field, underlying, h1, h2, asAgg, h6, h7]
theorem stillVal_ok (hW : RW e st.H st.nx σ w) (ht : ∀ t, denA (kx e st.H st.nx σ w) (a.tmps.getD t undef) (st.tm t)) (h : stillVal P st o.op = some (p, x)) (hp : p) : Yl P o a w (kx e st.H st.nx σ w) x := by
  generalize hop : o.op = op at h
  cases op <;> simp only [stillVal] at h <;> try (cases h; done)
  case move y =>
    simp only [Option.some.injEq, Prod.mk.injEq] at h
    obtain ⟨rfl, rfl⟩ := h
    exact ⟨a.eval y, fun w' _ => by simp [execOp, hop], ev_den ht y⟩
  case assign y =>
    simp only [Option.some.injEq, Prod.mk.injEq] at h
    obtain ⟨rfl, rfl⟩ := h
    exact ⟨a.eval y, fun w' _ => by simp [execOp, hop], ev_den ht y⟩
  case pick c y z =>
    have hc := ev_den ht c
    split at h <;> try (cases h; done)
    rename_i t hec
    rw [hec] at hc
    simp only [Option.some.injEq, Prod.mk.injEq] at h
    obtain ⟨rfl, rfl⟩ := h
    simp only [denA, den1, den] at hc
    refine ⟨if t then a.eval y else a.eval z, fun w' _ => by simp [execOp, hop, hc.1, asBool], ?_⟩
    cases t
    · exact ev_den ht z
    exact ev_den ht y
  case field xt y f =>
    have hy := ev_den ht y
    split at h <;> try (cases h; done)
    rename_i cs o' ft hey hf
    rw [hey] at hy
    split at h <;> try (cases h; done)
    rename_i ag sz hl
    simp only [Option.some.injEq, Prod.mk.injEq] at h
    obtain ⟨rfl, rfl⟩ := h
    obtain ⟨us, h1, h2⟩ := hy
    obtain ⟨v, h3, h4⟩ := part_at (P := P) hl h2 hp.1 hp.2
    exact ⟨v, fun w' _ => by simp only [execOp, hop, h1, Sem.run_bind, field_run hf, h3 w', Result.andThen_ok, Sem.run_pure], h4⟩
  case extract y i =>
    have hy := ev_den ht y
    split at h <;> try (cases h; done)
    rename_i l hey
    rw [hey] at hy
    split at h <;> try (cases h; done)
    rename_i b hb
    simp only [Option.some.injEq, Prod.mk.injEq] at h
    obtain ⟨rfl, rfl⟩ := h
    obtain ⟨vs, h1, h2⟩ := hy
    have key : ∀ (l : List A1) (vs : List Value) (i : Nat) (b : A1), den1s (kx e st.H st.nx σ w) vs l → l[i]? = some b → ∃ v, vs[i]? = some v ∧ den1 (kx e st.H st.nx σ w) v b := by
      intro l
      induction l with
      | nil => intro vs i b _ h; simp at h
      | cons c l ih =>
        intro vs i b hd hb
        cases vs with
        | nil => exact hd.elim
        | cons v vs =>
          cases i with
          | zero => simp at hb; subst hb; exact ⟨v, rfl, hd.1⟩
          | succ i => simp at hb; simpa using ih vs i b hd.2 hb
    obtain ⟨v, h3, h4⟩ := key l vs i b h2 hb
    exact ⟨v, fun w' _ => by simp [execOp, hop, h1, Instr.extract, h3], h4⟩
  case binOp op t y z yt =>
    have hy := ev_den ht y
    have hz := ev_den ht z
    split at h <;> try (cases h; done)
    · rename_i u v hey hez
      rw [hey] at hy
      rw [hez] at hz
      split at h <;> try (cases h; done)
      rename_i q r hb
      simp only [Option.some.injEq, Prod.mk.injEq] at h
      obtain ⟨rfl, rfl⟩ := h
      simp only [denA, den1, den] at hy hz
      refine ⟨r, fun w' _ => ?_, ?_⟩
      · have := (abin_run (x := y) (y := z) hb hp w').1
        simp only [execOp, hop, hy.1, hz.1]
        rw [Sem.run_bind, this]; rfl
      simp only [denA, den1, den]
      exact ⟨trivial, (abin_run (x := y) (y := z) hb hp w).2⟩
    rename_i xs ys hey hez
    rw [hey] at hy
    rw [hez] at hz
    split at h <;> try (cases h; done)
    rename_i us vs hu hv
    obtain ⟨us', h1, h2⟩ := hy
    obtain ⟨vs', h3, h4⟩ := hz
    obtain rfl := litsOf_den hu h2
    obtain rfl := litsOf_den hv h4
    cases op <;> simp only [reduceCtorEq, Option.some.injEq, Prod.mk.injEq] at h
    · obtain ⟨rfl, rfl⟩ := h
      refine ⟨.bool (eqVs us' vs'), fun w' _ => ?_, ?_⟩
      · have := hp w'
        simp only [execOp, hop, h1, h3, Sem.run_bind, eqGuard_false this.2, Result.andThen_ok, binOp, this.1, Sem.run_pure]
      simp only [denA, den1, den]; exact ⟨trivial, rfl⟩
    obtain ⟨rfl, rfl⟩ := h
    refine ⟨.bool (!eqVs us' vs'), fun w' _ => ?_, ?_⟩
    · have := hp w'
      simp only [execOp, hop, h1, h3, Sem.run_bind, eqGuard_false this.2, Result.andThen_ok, binOp, this.1, Sem.run_pure]
    simp only [denA, den1, den]; exact ⟨trivial, rfl⟩
  case unOp op t y =>
    have hy := ev_den ht y
    cases op <;> simp only [reduceCtorEq] at h
    · split at h <;> try (cases h; done)
      rename_i k n hey
      rw [hey] at hy
      simp only [denA, den1, den] at hy
      split at h
      · rename_i hk
        subst hk
        simp only [Option.some.injEq, Prod.mk.injEq] at h
        obtain ⟨rfl, rfl⟩ := h
        refine ⟨.int .i64 (0 - n), fun w' _ => ?_, by simp only [denA, den1, den]; exact ⟨trivial, rfl⟩⟩
        have := wrap_in hp
        simp only [execOp, hop, hy.1, Op.unary, Op.intArith, this, Sem.run_bind, Sem.run_pure, Result.andThen_ok]
      simp only [Option.some.injEq, Prod.mk.injEq] at h
      obtain ⟨rfl, rfl⟩ := h
      refine ⟨.int k (k.wrap (0 - n)), fun w' _ => ?_, by simp only [denA, den1, den]; exact ⟨trivial, rfl⟩⟩
      simp only [execOp, hop, hy.1, Op.unary, Op.intArith, Sem.run_bind, Sem.run_pure, Result.andThen_ok]
    split at h <;> try (cases h; done)
    rename_i t hey
    rw [hey] at hy
    simp only [Option.some.injEq, Prod.mk.injEq] at h
    obtain ⟨rfl, rfl⟩ := h
    simp only [denA, den1, den] at hy
    exact ⟨.bool (!t), fun w' _ => by simp [execOp, hop, hy.1, Op.unary], by simp only [denA, den1, den]; exact ⟨trivial, rfl⟩⟩
  case convert s d y =>
    have hy := ev_den ht y
    split at h <;> try (cases h; done)
    rename_i k0 n k hey hd
    rw [hey] at hy
    simp only [denA, den1, den] at hy
    split at h
    · rename_i hk
      subst hk
      simp only [Option.some.injEq, Prod.mk.injEq] at h
      obtain ⟨rfl, rfl⟩ := h
      obtain ⟨hi, hs⟩ := hp
      obtain ⟨sd, hs⟩ := Option.isSome_iff_exists.1 hs
      refine ⟨.int .i64 n, fun w' _ => ?_, by simp only [denA, den1, den]; exact ⟨trivial, rfl⟩⟩
      simp [execOp, hop, hy.1, convert, underlying, hd, hs, Conv.intToInt, wrap_in hi]
    simp only [Option.some.injEq, Prod.mk.injEq] at h
    obtain ⟨rfl, rfl⟩ := h
    obtain ⟨sd, hs⟩ := Option.isSome_iff_exists.1 hp
    refine ⟨.int k (k.wrap n), fun w' _ => ?_, by simp only [denA, den1, den]; exact ⟨trivial, rfl⟩⟩
    simp [execOp, hop, hy.1, convert, underlying, hd, hs, Conv.intToInt]
  case index t y ix =>
    have hy := ev_den ht y
    have hx := ev_den ht ix
    split at h <;> try (cases h; done)
    · rename_i s k i hey hex
      rw [hey] at hy
      rw [hex] at hx
      simp only [Option.some.injEq, Prod.mk.injEq] at h
      obtain ⟨rfl, rfl⟩ := h
      obtain ⟨hu, h0, h1⟩ := hp
      simp only [denA, den1, den] at hx hy
      refine ⟨.int .u8 ((s.data.toList.getD i.toNat 0).toNat : Int), fun w' _ => ?_, by simp only [denA, den1, den]; exact ⟨trivial, rfl⟩⟩
      have hlt : i.toNat < s.size := by omega
      have hget : s[i.toNat]? = some (s.data.toList.getD i.toNat 0) := by
        have h2 : i.toNat < s.data.toList.length := by simpa using hlt
        rw [getElem?_pos s i.toNat hlt]
        simp only [List.getD_eq_getElem?_getD, List.getElem?_eq_getElem h2, Option.getD_some]
        rfl
      simp only [execOp, hop, hy.1, hx.1, Sem.run_bind, Instr.index, asIntOf, Sem.run_pure, Result.andThen_ok, run_underlying hu, h0, if_true, hget]
    rename_i cs k i hey hex
    rw [hey] at hy
    rw [hex] at hx
    split at h <;> try (cases h; done)
    rename_i n e' sz har
    split at h <;> try (cases h; done)
    rename_i ag sz' hl
    simp only [Option.some.injEq, Prod.mk.injEq] at h
    obtain ⟨rfl, rfl⟩ := h
    obtain ⟨h0, h1, rfl, h2, h3⟩ := hp
    simp only [denA, den1, den] at hx
    obtain ⟨us, h4, h5⟩ := hy
    obtain ⟨g1, j, g2, g3⟩ := arT_run har
    obtain ⟨v, h6, h7⟩ := part_at (P := P) hl h5 h2 h3
    refine ⟨v, fun w' _ => ?_, h7⟩
    have hc : 0 ≤ i ∧ i < (n : Int) := ⟨h0, h1⟩
    simp only [execOp, hop, h4, hx.1, Sem.run_bind, Instr.index, asIntOf, Sem.run_pure, Result.andThen_ok, run_underlying g1, Sem.run_ite, if_pos hc, sizeOf, typeInfo, run_program, g2, g3, h6 w']
  case slice t y lo hi mx =>
    cases mx <;> simp only [reduceCtorEq] at h
    have hy := ev_den ht y
    split at h <;> try (cases h; done)
    · rename_i sz n cs hey
      rw [hey] at hy
      split at h <;> try (cases h; done)
      rename_i e' sz' by_ p1 l p2 hh hel hb1 hb2
      simp only [Option.some.injEq, Prod.mk.injEq] at h
      obtain ⟨rfl, rfl⟩ := h
      obtain ⟨rfl, hp1, hp2, hlh, hhn⟩ := hp
      obtain ⟨g1, j, g2, g3, _⟩ := elT_run hel
      simp only [denA, den1, den] at hy
      obtain ⟨ad, cap, h1, h2, h3, h4, h5, h6⟩ := hy
      have e1 : ∀ w', (Instr.sliceBounds true n cap (lo.map a.eval) (hi.map a.eval) none).run P w' = .ok (l, hh, cap) w' := fun w' => by
        have f2 : (0 : Int) ≤ (hh : Int) ∧ (hh : Int) ≤ (cap : Int) := ⟨by omega, by omega⟩
        have f1 : (0 : Int) ≤ (l : Int) ∧ (l : Int) ≤ (hh : Int) := ⟨by omega, by omega⟩
        rcases bnd_ok ht hb1 hp1 with ⟨rfl, rfl⟩ | ⟨z1, k1, rfl, q1⟩ <;> rcases bnd_ok ht hb2 hp2 with ⟨rfl, rfl⟩ | ⟨z2, k2, rfl, q2⟩
        · simp [Instr.sliceBounds]
        · simp only [Instr.sliceBounds, Option.map_some, Option.map_none, q2, Instr.sliceBound, asIntOf, Sem.run_bind, Sem.run_pure, Result.andThen_ok, Sem.run_ite, if_pos f2, Int.toNat_natCast]
        · simp only [Instr.sliceBounds, Option.map_some, Option.map_none, q1, Instr.sliceBound, asIntOf, Sem.run_bind, Sem.run_pure, Result.andThen_ok, Sem.run_ite, if_pos f1, Int.toNat_natCast]
        simp only [Instr.sliceBounds, Option.map_some, Option.map_none, q1, q2, Instr.sliceBound, asIntOf, Sem.run_bind, Sem.run_pure, Result.andThen_ok, Sem.run_ite, if_pos f1, if_pos f2, Int.toNat_natCast]
      refine ⟨.slice (if cap = l then ad else ad.map (·.add (l * sz))) (hh - l) (cap - l), fun w' _ => ?_, ?_⟩
      · simp only [execOp, hop, h1, Sem.run_bind, Instr.sliceAt, run_underlying g1, Result.andThen_ok, Instr.slice, e1 w', sizeOf, typeInfo, run_program, g2, g3, Sem.run_pure, Option.map_none]
      simp only [denA, den1, den]
      refine ⟨_, _, rfl, by omega, by omega, fun hnone => ?_, ?_, ?_⟩
      · split at hnone
        · have := h4 hnone; omega
        cases ad with
        | none => have := h4 rfl; omega
        | some q => simp at hnone
      · have hle : l * sz + (hh - l) * sz ≤ n * sz := by rw [← Nat.add_mul]; exact Nat.mul_le_mul_right _ (by omega)
        simp; omega
      rcases h6 with h6 | ⟨b, off, rfl, h7, h8⟩
      · exact .inl (by omega)
      by_cases hcl : cap = l
      · exact .inl (by omega)
      refine .inr ⟨b, off + l * sz, ?_, h7, ?_⟩
      · rw [if_neg hcl]; simp [add_lit]
      exact (h8.drop (l * sz)).take _
    rename_i s hey
    rw [hey] at hy
    split at h <;> try (cases h; done)
    rename_i p1 l p2 hh hb1 hb2
    simp only [Option.some.injEq, Prod.mk.injEq] at h
    obtain ⟨rfl, rfl⟩ := h
    obtain ⟨hu, hp1, hp2, hlh, hhn⟩ := hp
    simp only [denA, den1, den] at hy
    have e1 : ∀ w', (Instr.sliceBounds false s.size s.size (lo.map a.eval) (hi.map a.eval) none).run P w' = .ok (l, hh, s.size) w' := fun w' => by
      have f2 : (0 : Int) ≤ (hh : Int) ∧ (hh : Int) ≤ (s.size : Int) := ⟨by omega, by omega⟩
      have f1 : (0 : Int) ≤ (l : Int) ∧ (l : Int) ≤ (hh : Int) := ⟨by omega, by omega⟩
      rcases bnd_ok ht hb1 hp1 with ⟨rfl, rfl⟩ | ⟨z1, k1, rfl, q1⟩ <;> rcases bnd_ok ht hb2 hp2 with ⟨rfl, rfl⟩ | ⟨z2, k2, rfl, q2⟩
      · simp [Instr.sliceBounds]
      · simp only [Instr.sliceBounds, Option.map_some, Option.map_none, q2, Instr.sliceBound, asIntOf, Sem.run_bind, Sem.run_pure, Result.andThen_ok, Sem.run_ite, if_pos f2, Int.toNat_natCast]
      · simp only [Instr.sliceBounds, Option.map_some, Option.map_none, q1, Instr.sliceBound, asIntOf, Sem.run_bind, Sem.run_pure, Result.andThen_ok, Sem.run_ite, if_pos f1, Int.toNat_natCast]
      simp only [Instr.sliceBounds, Option.map_some, Option.map_none, q1, q2, Instr.sliceBound, asIntOf, Sem.run_bind, Sem.run_pure, Result.andThen_ok, Sem.run_ite, if_pos f1, if_pos f2, Int.toNat_natCast]
    refine ⟨.string (s.extract l hh), fun w' _ => ?_, by simp only [denA, den1, den]; exact ⟨trivial, rfl⟩⟩
    simp only [execOp, hop, hy.1, Sem.run_bind, Instr.sliceAt, run_underlying hu, Result.andThen_ok, Instr.slice, e1 w', Sem.run_pure, Option.map_none, Option.isSome_none, Bool.false_eq_true, if_false]
theorem stillCall_ok {c : Call} (hW : RW e st.H st.nx σ w) (ht : ∀ t, denA (kx e st.H st.nx σ w) (a.tmps.getD t undef) (st.tm t)) (hop : o.op = .call c) (h : stillCall P st c = some (p, x)) (hp : p) : Yl P o a w (kx e st.H st.nx σ w) x := by
  obtain ⟨callee, args, argTypes⟩ := c
  simp only [stillCall] at h
  split at h <;> try (cases h; done)
  split at h <;> try (cases h; done)
  rename_i y t hargs htys
  have ha : args = #[y] := Array.toList_inj.1 hargs
  have hty : argTypes = #[t] := Array.toList_inj.1 htys
  subst ha hty
  have hy := ev_den ht y
  have hrun : ∀ v w', (Builtin.len_ #[t] o.type #[a.eval y]).run P w' = .ok v w' → (execOp a.eval o).run P w' = .ok (.value v) w' := fun v w' hv => by
    simp [execOp, hop, resolve, invoke, builtin, hv]
  split at h
  · rename_i s hey
    rw [hey] at hy
    simp only [Option.some.injEq, Prod.mk.injEq] at h
    obtain ⟨rfl, rfl⟩ := h
    simp only [denA, den1, den] at hy
    refine ⟨.int .i64 s.size, fun w' _ => hrun _ _ ?_, by simp only [denA, den1, den]; exact ⟨trivial, rfl⟩⟩
    rw [hy.1, run_len_string _ _ _ _ hp]; rfl
  split at h <;> try (cases h; done)
  rename_i n el hn hel
  simp only [Option.some.injEq, Prod.mk.injEq] at h
  obtain ⟨hp', rfl⟩ := h
  rw [← hp'] at hp
  have key : ∃ ad cap, a.eval y = .slice ad n cap := by
    unfold lenA at hn
    split at hn <;> try (cases hn; done)
    · rename_i nm s' n' sz hey
      rw [hey] at hy hp
      obtain rfl := Option.some.inj hn
      obtain ⟨hsz, B, hB, hs⟩ := hp
      simp only [denA, den1, den] at hy
      obtain ⟨h1, h2, h3⟩ := hy.2.2 B hB hs
      obtain ⟨_, _, xs, h5, h6⟩ := hW.rowOf hB (.inl (by rw [h3]; exact hsz))
      have h1' : a.eval y = σ nm := h1
      rcases h5.2 with ⟨h7, h8⟩ | ⟨g, cap, cur, h7, _⟩
      · exact ⟨none, 0, by rw [h1', ← h2, h8]; exact h7⟩
      exact ⟨some ⟨g, 0, none⟩, cap, by rw [h1', ← h2]; exact h7⟩
    · rename_i sz n' cs hey
      rw [hey] at hy
      obtain rfl := Option.some.inj hn
      simp only [denA, den1, den] at hy
      obtain ⟨ad, cap, h1, _⟩ := hy
      exact ⟨ad, cap, h1⟩
    rename_i ad n' cap hey
    rw [hey] at hy
    obtain rfl := Option.some.inj hn
    simp only [denA, den1, den] at hy
    exact ⟨ad, cap, hy.1⟩
  obtain ⟨ad, cap, hv⟩ := key
  obtain ⟨e', sz, by_⟩ := el
  obtain ⟨g1, _⟩ := elT_run hel
  refine ⟨.int .i64 n, fun w' _ => hrun _ _ ?_, by simp only [denA, den1, den]; exact ⟨trivial, rfl⟩⟩
  rw [hv]
  simp [Builtin.len_, run_underlying g1, goInt]
theorem still_ok (hW : RW e st.H st.nx σ w) (ht : ∀ t, denA (kx e st.H st.nx σ w) (a.tmps.getD t undef) (st.tm t)) (h : still P st o.op = some (p, x)) (hp : p) : Yl P o a w (kx e st.H st.nx σ w) x := by
  unfold still at h
  split at h
  · exact stillAddr_ok hW ht h hp
  · exact stillAddr_ok hW ht h hp
  · exact stillAddr_ok hW ht h hp
  · exact stillAddr_ok hW ht h hp
  · rename_i hop; exact stillCall_ok hW ht hop h hp
  exact stillVal_ok hW ht h hp
end
end Go.Proofs.Ytokmkopihhnggaa
end
section
/- The abstract machine: operations that make or write memory. No program in sight. -/
namespace Go.Proofs.Ytokmkopihhnggaa
open Go Go.RowKit
def spl {α : Type} (cs : List α) (off : Nat) (ds : List α) : List α := cs.take off ++ ds ++ cs.drop (off + ds.length)
theorem spl_length {α : Type} (cs : List α) (off : Nat) (ds : List α) (h : off + ds.length ≤ cs.length) : (spl cs off ds).length = cs.length := by
  simp [spl]; omega
theorem denVs_spl {κ : Kx} {vs us : List Value} {cs ds : List C} (h : denVs κ vs cs) (k : denVs κ us ds) (off : Nat) : denVs κ (spl vs off us) (spl cs off ds) := by
  unfold spl
  rw [k.length]
  exact ((h.take off).append k).append (h.drop _)
def repl {α : Type} (n : Nat) (z : List α) : List α := (List.replicate n z).flatten
theorem repl_length {α : Type} (n : Nat) (z : List α) : (repl n z).length = n * z.length := by simp [repl]
theorem denVs_repl {κ : Kx} {vs : List Value} {cs : List C} (h : denVs κ vs cs) : ∀ n, denVs κ (repl n vs) (repl n cs)
  | 0 => trivial
  | n + 1 => by
    have : ∀ {α : Type} (z : List α), repl (n + 1) z = z ++ repl n z := fun z => by simp [repl, List.replicate_succ]
    rw [this, this]
    exact h.append (denVs_repl h n)
theorem made_repl (z : Array Value) (n : Nat) : (madeCells z (n * z.size)).toList = repl n z.toList := by
  apply List.ext_getElem
  · simp [madeCells, repl_length]
  intro i h1 h2
  have hi : i < n * z.size := by simpa [madeCells] using h1
  have hz : 0 < z.size := by
    rcases Nat.eq_zero_or_pos z.size with h | h
    · rw [h] at hi; simp at hi
    exact h
  have key : ∀ (n : Nat) (l : List Value) (i : Nat) (hi : i < n * l.length), 0 < l.length → (repl n l)[i]? = l[i % l.length]? := by
    intro n l
    induction n with
    | zero => intro i hi; simp at hi
    | succ n ih =>
      intro i hi hl
      have e : repl (n + 1) l = l ++ repl n l := by simp [repl, List.replicate_succ]
      rw [e]
      rcases Nat.lt_or_ge i l.length with h | h
      · rw [List.getElem?_append_left h, Nat.mod_eq_of_lt h]
      rw [List.getElem?_append_right h, ih (i - l.length) (by rw [Nat.succ_mul] at hi; omega) hl]
      congr 1
      rw [Nat.mod_eq_sub_mod h]
  have h3 := key n z.toList i (by simpa using hi) (by simpa using hz)
  rw [List.getElem?_eq_getElem h2] at h3
  have h4 : i % z.size < z.size := Nat.mod_lt _ hz
  have h5 : (repl n z.toList)[i] = z[i % z.size] := by
    have : z.toList[i % z.toList.length]? = some z[i % z.size] := by simp [h4]
    rw [this] at h3
    exact Option.some.inj h3
  rw [h5]
  simp only [madeCells, Array.getElem_toList, Array.getElem_map, Array.getElem_range]
  rw [getElem!_pos z _ h4]
section
variable {e : En} {H : Hp} {nx : Nat} {σ : Nat → Value} {w w' : World}
theorem RW.updV (h : RW e H nx σ w) {nm : Nat} {B : Blk} {cs : List C} {row : Option Nat} (hB : H nm = some B) (hg : w.grownBy w' row) (hrow : ∀ r, row = some r → obk (σ nm) = some r)
    (hnew : Ext (kx e H nx σ w) (kx e (up H nm (some { B with cs := cs })) nx σ w') → blkV (kx e (up H nm (some { B with cs := cs })) nx σ w') nm { B with cs := cs }) :
    RW e (up H nm (some { B with cs := cs })) nx σ w' ∧ Ext (kx e H nx σ w) (kx e (up H nm (some { B with cs := cs })) nx σ w') := by
  have old : ∀ nm' B', up H nm (some { B with cs := cs }) nm' = some B' → ∃ B0, H nm' = some B0 ∧ B0.st = B'.st ∧ B0.sz = B'.sz ∧ B0.n = B'.n ∧ B0.E = B'.E ∧ (nm' ≠ nm → B0 = B') := fun nm' B' hB' => by
    by_cases h0 : nm' = nm
    · subst h0; rw [up_same] at hB'; cases hB'; exact ⟨B, hB, rfl, rfl, rfl, rfl, fun h => (h rfl).elim⟩
    rw [up_ne _ _ h0] at hB'; exact ⟨B', hB', rfl, rfl, rfl, rfl, fun _ => rfl⟩
  have hext : Ext (kx e H nx σ w) (kx e (up H nm (some { B with cs := cs })) nx σ w') := by
    refine ⟨Nat.le_refl _, fun k hk => ⟨⟨hk.1, ?_, fun nm' B' hB' => ?_⟩, ?_⟩, fun nm' B' hB' => ?_⟩
    · exact Nat.lt_of_lt_of_le hk.2.1 hg.size
    · obtain ⟨B0, h1, _⟩ := old nm' B' hB'
      exact hk.2.2 nm' B0 h1
    · exact hg.block k hk.2.1 (fun e1 => hk.2.2 nm B hB (hrow k e1.symm))
    obtain ⟨B0, h1, h2, h3, h4, _⟩ := old nm' B' hB'
    exact .inr ⟨B0, h1, h2, h3, h4, rfl⟩
  refine ⟨⟨h.bel.grown hg h.size (fun k hk => (h.lt hB (hrow k hk)).1), h.hT, fun nm' B' hB' => ?_, fun n1 n2 B1 B2 hB1 hB2 => ?_⟩, hext⟩
  · obtain ⟨B0, g1, g2, g3, g4, g5, g6⟩ := old nm' B' hB'
    by_cases h0 : nm' = nm
    · subst h0
      rw [up_same] at hB'
      cases hB'
      exact ⟨by have := (h.blk nm' B0 g1).1; rw [g2] at this; exact this, hnew hext⟩
    obtain rfl := g6 h0
    refine ⟨(h.blk nm' B0 g1).1, (h.blk nm' B0 g1).2.kept hg ?_ rfl rfl hext⟩
    show obk (σ nm') = none ∨ obk (σ nm') ≠ row
    by_cases hn : obk (σ nm') = none
    · exact .inl hn
    obtain ⟨b, hb⟩ := Option.ne_none_iff_exists'.1 hn
    refine .inr fun e1 => ?_
    rw [hb] at e1
    exact h.inj nm' nm B0 B g1 hB h0 b hb (hrow b e1.symm)
  obtain ⟨D1, g1, _⟩ := old n1 B1 hB1
  obtain ⟨D2, g2, _⟩ := old n2 B2 hB2
  exact h.inj n1 n2 D1 D2 g1 g2
theorem RW.upd (h : RW e H nx σ w) {nm : Nat} {B : Blk} (hB : H nm = some B) (hg : w.grownBy w' (σ nm).ownBlock) {xs : List Value} {cs : List C} (hsz : B.sz ≠ 0) (hlen : cs.length = B.n * B.sz)
    (ho : w'.ownsRow e.w0.heap.size B.E B.sz (σ nm) B.n xs) (hd : denVs (kx e H nx σ w) xs cs) :
    RW e (up H nm (some { B with cs := cs })) nx σ w' ∧ Ext (kx e H nx σ w) (kx e (up H nm (some { B with cs := cs })) nx σ w') :=
  h.updV hB hg (fun r hr => obk_of_own hr) fun hext => .inl ⟨hsz, hlen, xs, ho, denVs_ext hext hd⟩
theorem grownBy_alloc (w : World) (o : Obj) : w.grownBy (w.alloc o) none := World.grownBy_alloc w o none
theorem grownBy_setRow (w : World) (g : Nat) (cs : Array Value) : w.grownBy (w.setRow g cs) (some g) :=
  ⟨rfl, rfl, rfl, by simp, fun k _ hk => setRow_other w g k cs (fun e => hk (by rw [e]))⟩
theorem RW.row (h : RW e H nx σ w) (d : Nat) (E : TypeId) (sz n : Nat) (hsz : sz ≠ 0) {us : List Value} {cs : List C} (hd : denVs (kx e H nx σ w) us cs) (hlen : cs.length = n * sz) (hn : n ≤ maxLen) :
    RW e (up H d (some ⟨nx, E, sz, n, cs⟩)) (nx + 1) (up σ d (.slice (some ⟨w.heap.size, 0, none⟩) n n)) (w.alloc (.cells us.toArray E)) ∧
    Ext (kx e H nx σ w) (kx e (up H d (some ⟨nx, E, sz, n, cs⟩)) (nx + 1) (up σ d (.slice (some ⟨w.heap.size, 0, none⟩) n n)) (w.alloc (.cells us.toArray E))) := by
  have := RW.new (d := d) (nm0 := d) (row := none) h (grownBy_alloc w (.cells us.toArray E)) (B' := ⟨nx, E, sz, n, cs⟩) (v' := .slice (some ⟨w.heap.size, 0, none⟩) n n) (xs := us) rfl hsz hlen (by simp)
    (fun r hr => .inl (by simp [obk] at hr; omega)) ⟨by rw [hd.length]; exact hlen, .inr ⟨w.heap.size, n, us.toArray, rfl, h.size, heap_alloc_new _ _, Nat.le_refl _, hn, by simp [hd.length, hlen], by
      rw [List.take_of_length_le (by simp [hd.length, hlen])]⟩⟩ hd
  rwa [up_up] at this
end
def cellsOf : AV → Option (List C)
  | .val a => some a.cells
  | _ => none
def zrT (P : Program) (t : TypeId) : Option (List Value) :=
  match (P.info? t).map (·.zero) with
  | some (some v) => if v.cells.toList.all Value.oneCell' then some v.cells.toList else none
  | _ => none
def plT (P : Program) (t : TypeId) : Option (List (Nat × Nat)) :=
  match P.underlying t with
  | some (.struct fs) => fs.toList.mapM fun f => (P.info? f.type).map fun i => (f.offset, i.size)
  | _ => none
def fillC (place : Nat → Option (Nat × Nat)) : List C → List (Nat × AV) → Option (Prop × List C)
  | cs, [] => some (True, cs)
  | cs, (i, x) :: rest => match place i, cellsOf x with
    | some (off, size), some ds => match fillC place (spl cs off ds) rest with
      | some (p, r) => some ((ds.length = size ∧ off + size ≤ cs.length) ∧ p, r)
      | none => none
    | _, _ => none
def srcA (st : St) (x : AV) : Option (Prop × Nat × Nat × List C) :=
  match x with
  | .val (.one (.own nm s' n sz)) => match st.H nm with
    | some B => some (B.st = s' ∧ sz ≠ 0, sz, n, B.cs)
    | none => none
  | .val (.one (.sh sz n cs)) => some (True, sz, n, cs)
  | _ => none
def stillBuild (P : Program) (st : St) (t : TypeId) (parts : Array (Nat × Operand)) : Option (Prop × AV) :=
  match zrT P t, plT P t with
  | some zs, some ps => match fillC (fun i => ps[i]?) (zs.map .lit) (parts.toList.map fun q => (q.1, ev st q.2)) with
    | some (p, r) => some (p, .val (.agg r))
    | none => none
  | _, _ => none
def eff (P : Program) (st : St) (d : Nat) : Op → Option (Prop × St)
  | .alloc t => match zrT P t with
    | some zs => some (zs.length ≠ 0, ⟨up st.tm d (.val (.one (.ptr (st.nb + d) st.nx 0))), up st.H (st.nb + d) (some ⟨st.nx, t, zs.length, 1, zs.map .lit⟩), st.nx + 1, st.nb⟩)
    | none => none
  | .box t x => match cellsOf (ev st x) with
    | some cs => some (cs.length ≠ 0, ⟨up st.tm d (.val (.one (.ptr (st.nb + d) st.nx 0))), up st.H (st.nb + d) (some ⟨st.nx, t, cs.length, 1, cs⟩), st.nx + 1, st.nb⟩)
    | none => none
  | .buildSlice t len parts => match elT P t with
    | some (E, sz, _) => match zrT P E with
      | some zs => match fillC (fun i => some (i * sz, sz)) (repl len (zs.map .lit)) (parts.toList.map fun q => (q.1, ev st q.2)) with
        | some (p, r) => some (p ∧ zs.length = sz ∧ 0 < len * sz ∧ len * sz ≤ 16777216 ∧ r.length = len * sz, ⟨up st.tm d (.val (.one (.own (st.nb + d) st.nx len sz))), up st.H (st.nb + d) (some ⟨st.nx, E, sz, len, r⟩), st.nx + 1, st.nb⟩)
        | none => none
      | none => none
    | none => none
  | .makeSlice t l c => match ev st l, ev st c, elT P t with
    | .val (.one (.lit (.int _ n))), .val (.one (.lit (.int _ n'))), some (E, sz, by_) => match zrT P E with
      | some zs => some (n = n' ∧ sz ≠ 0 ∧ zs.length = sz ∧ 0 ≤ n ∧ (by_ : Int) * n ≤ 281474976710656 ∧ n ≤ 4611686018427387904, ⟨up st.tm d (.val (.one (.own (st.nb + d) st.nx n.toNat sz))), up st.H (st.nb + d) (some ⟨st.nx, E, sz, n.toNat, repl n.toNat (zs.map .lit)⟩), st.nx + 1, st.nb⟩)
      | none => none
    | _, _, _ => none
  | .store t x y => match ev st x, cellsOf (ev st y), ldT P t with
    | .val (.one (.ptr nm s' off)), some ds, some (_, sz) => match st.H nm with
      | some B => some (B.st = s' ∧ ds.length = sz ∧ off + sz ≤ B.cs.length, ⟨st.tm, up st.H nm (some { B with cs := spl B.cs off ds }), st.nx, st.nb⟩)
      | none => none
    | _, _, _ => none
  | .call { callee := .builtin .append, args, argTypes } => match args.toList, argTypes.toList with
    | [s, x], [t, t'] => match elT P t, srcA st (ev st x) with
      | some (E, sz, by_), some (q, sz', m, ns) => match ev st s with
        | .val (.one (.own nm s' n sz'')) => match st.H nm with
          | some B => some (q ∧ t = t' ∧ B.st = s' ∧ sz'' = sz ∧ sz' = sz ∧ B.E = E ∧ (zrT P E).map List.length = some sz ∧ 0 < sz ∧ ((n + m) * by_ ≤ 140737488355328 ∧ n + m ≤ 4611686018427387904),
              ⟨up st.tm d (.val (.one (.own (st.nb + d) st.nx (n + m) sz))), up (up st.H nm none) (st.nb + d) (some ⟨st.nx, E, sz, n + m, B.cs ++ ns⟩), st.nx + 1, st.nb⟩)
          | none => none
        | .val (.one (.lit (.slice none 0 0))) => some (q ∧ t = t' ∧ sz' = sz ∧ (zrT P E).map List.length = some sz ∧ 0 < sz ∧ (m * by_ ≤ 140737488355328 ∧ m ≤ 4611686018427387904),
              ⟨up st.tm d (.val (.one (.own (st.nb + d) st.nx m sz))), up st.H (st.nb + d) (some ⟨st.nx, E, sz, m, ns⟩), st.nx + 1, st.nb⟩)
        | _ => none
      | _, _ => none
    | _, _ => none
  | _ => none
end Go.Proofs.Ytokmkopihhnggaa
end
