/- The abstract machine: operations that neither write nor make memory: what they yield. No program in sight. -/
import Derived.Test.YtokmkopihhnggaaGreatDoorDrawM
set_option linter.unusedVariables false
set_option linter.unusedSimpArgs false
set_option linter.unusedSectionVars false
namespace Go.Proofs.YtokmkopihhnggaaGreatDoor
open Go Go.RowKit
abbrev one (v : Value) : AV := .val (.one (.lit v))
def cut (ag : Bool) (sz off : Nat) (cs : List C) : AV :=
 if ag then .val (.agg ((cs.drop off).take sz)) else match cs[off]? with
  | some c => .val (.one c)
  | none => .dead
def bnd (st : St) (x : Option Operand) (d : Nat) : Option (Prop × Nat) :=
 match x with
 | none => some (True, d)
 | some x => match ev st x with
  | .val (.one (.lit (.int _ i))) => some (0 ≤ i, i.toNat)
  | _ => none
def lenA : AV → Option Nat
 | .val (.one (.own _ _ n _)) => some n
 | .val (.one (.sh _ n _)) => some n
 | .val (.one (.lit (.slice _ n _))) => some n
 | _ => none
def stillAddr (P : Program) (st : St) : Op → Option (Prop × AV)
 | .fieldAddr s x f => match ev st x, foT P s f with
  | .val (.one (.ptr nm s' off)), some (o, _) => some (∃ B, st.H nm = some B ∧ B.st = s', .val (.one (.ptr nm s' (off + o))))
  | .val (.one (.sp cs)), some (o, _) => some (True, .val (.one (.sp (cs.drop o))))
  | _, _ => none
 | .indexAddr t x ix => match ev st x, ev st ix, elT P t, arT P t with
  | .val (.one (.own nm s' n sz)), .val (.one (.lit (.int _ i))), some (_, sz', _), _ => some (sz = sz' ∧ 0 ≤ i ∧ i < n ∧ ∃ B, st.H nm = some B ∧ B.st = s', .val (.one (.ptr nm s' (i.toNat * sz))))
  | .val (.one (.sh sz n cs)), .val (.one (.lit (.int _ i))), some (_, sz', _), _ => some (sz = sz' ∧ 0 ≤ i ∧ i < n, .val (.one (.sp (cs.drop (i.toNat * sz)))))
  | .val (.one (.ptr nm s' off)), .val (.one (.lit (.int _ i))), _, some (n, _, sz) => some (0 ≤ i ∧ i < n ∧ ∃ B, st.H nm = some B ∧ B.st = s', .val (.one (.ptr nm s' (off + i.toNat * sz))))
  | .val (.one (.sp cs)), .val (.one (.lit (.int _ i))), _, some (n, _, sz) => some (0 ≤ i ∧ i < n, .val (.one (.sp (cs.drop (i.toNat * sz)))))
  | _, _, _, _ => none
 | .load t x => match ev st x, ldT P t with
  | .val (.one (.ptr nm s' off)), some (ag, sz) => match st.H nm with
   | some B => some (B.st = s' ∧ off + sz ≤ B.cs.length ∧ (ag = true ∨ sz = 1), cut ag sz off B.cs)
   | none => none
  | .val (.one (.sp cs)), some (ag, sz) => some (sz ≤ cs.length ∧ (ag = true ∨ sz = 1), cut ag sz 0 cs)
  | _, _ => none
 | .nilCheck x => match ev st x with
  | .val (.one (.ptr nm s' off)) => some (∃ B, st.H nm = some B ∧ B.st = s', .val (.one (.ptr nm s' off)))
  | .val (.one (.sp cs)) => some (True, .val (.one (.sp cs)))
  | _ => none
 | _ => none
def stillVal (P : Program) (st : St) : Op → Option (Prop × AV)
 | .move x => some (True, ev st x)
 | .assign x => some (True, ev st x)
 | .pick c x y => match ev st c with
  | .val (.one (.lit (.bool t))) => some (True, if t then ev st x else ev st y)
  | _ => none
 | .field xt x f => match ev st x, foT P xt f with
  | .val (.agg cs), some (o, ft) => match ldT P ft with
   | some (ag, sz) => some (o + sz ≤ cs.length ∧ (ag = true ∨ sz = 1), cut ag sz o cs)
   | none => none
  | _, _ => none
 | .extract x i => match ev st x with
  | .tup l => match l[i]? with
   | some a => some (True, .val a)
   | none => none
  | _ => none
 | .binOp op t x y _ => match ev st x, ev st y with
  | .val (.one (.lit u)), .val (.one (.lit v)) => match abin P op t u v with
   | some (p, r) => some (p, one r)
   | none => none
  | .val (.agg xs), .val (.agg ys) => match litsOf xs, litsOf ys with
   | some us, some vs => match op with
    | .eql => some (EqOK P t us vs, one (.bool (eqVs us vs)))
    | .neq => some (EqOK P t us vs, one (.bool (!eqVs us vs)))
    | _ => none
   | _, _ => none
  | _, _ => none
 | .unOp .not _ x => match ev st x with
  | .val (.one (.lit (.bool t))) => some (True, one (.bool (!t)))
  | _ => none
 | .unOp .neg _ x => match ev st x with
  | .val (.one (.lit (.int k n))) => if k = .i64 then some (inK k (0 - n), one (.int k (0 - n))) else some (True, one (.int k (k.wrap (0 - n))))
  | _ => none
 | .convert s d x => match ev st x, P.underlying d with
  | .val (.one (.lit (.int _ n))), some (.int k) => if k = .i64 then some (inK .i64 n ∧ (P.underlying s).isSome = true, one (.int .i64 n)) else some ((P.underlying s).isSome = true, one (.int k (k.wrap n)))
  | _, _ => none
 | .index t x ix => match ev st x, ev st ix with
  | .val (.one (.lit (.string s))), .val (.one (.lit (.int _ i))) => some (P.underlying t = some .string ∧ 0 ≤ i ∧ i < s.size, one (.int .u8 (s.data.toList.getD i.toNat 0).toNat))
  | .val (.agg cs), .val (.one (.lit (.int _ i))) => match arT P t with
   | some (n, e, sz) => match ldT P e with
    | some (ag, sz') => some (0 ≤ i ∧ i < n ∧ sz' = sz ∧ i.toNat * sz + sz ≤ cs.length ∧ (ag = true ∨ sz = 1), cut ag sz (i.toNat * sz) cs)
    | none => none
   | none => none
  | _, _ => none
 | .slice t x lo hi none => match ev st x with
  | .val (.one (.sh sz n cs)) => match elT P t, bnd st lo 0, bnd st hi n with
   | some (_, sz', _), some (p1, l), some (p2, h) => some (sz = sz' ∧ p1 ∧ p2 ∧ l ≤ h ∧ h ≤ n, .val (.one (.sh sz (h - l) ((cs.drop (l * sz)).take ((h - l) * sz)))))
   | _, _, _ => none
  | .val (.one (.lit (.string s))) => match bnd st lo 0, bnd st hi s.size with
   | some (p1, l), some (p2, h) => some (P.underlying t = some .string ∧ p1 ∧ p2 ∧ l ≤ h ∧ h ≤ s.size, one (.string (s.extract l h)))
   | _, _ => none
  | _ => none
 | _ => none
def stillCall (P : Program) (st : St) (c : Call) : Option (Prop × AV) :=
 match c.callee with
 | .builtin .len => match c.args.toList, c.argTypes.toList with
  | [x], [t] => match ev st x with
   | .val (.one (.lit (.string s))) => some (P.underlying t = some .string, one (.int .i64 s.size))
   | _ => match lenA (ev st x), elT P t with
    | some n, some _ => some (match ev st x with
     | .val (.one (.own nm s' _ sz)) => sz ≠ 0 ∧ ∃ B, st.H nm = some B ∧ B.st = s'
     | _ => True, one (.int .i64 n))
    | _, _ => none
  | _, _ => none
 | _ => none
def still (P : Program) (st : St) (op : Op) : Option (Prop × AV) :=
 match op with
 | .fieldAddr .. | .indexAddr .. | .load .. | .nilCheck .. => stillAddr P st op
 | .call c => stillCall P st c
 | op => stillVal P st op
def Yl (P : Program) (o : Oper) (a : Act) (w : World) (κ : Kx) (x : AV) : Prop :=
 ∃ v, (∀ w', FL w w' ∨ reads o.op = false → (execOp a.eval o).run P w' = .ok (.value v) w') ∧ denA κ v x
theorem arT_run {P : Program} {t e : TypeId} {n sz : Nat} (h : arT P t = some (n, e, sz)) : P.underlying t = some (.array n e) ∧ ∃ i, P.info? e = some i ∧ i.size = sz := by
 unfold arT at h
 split at h <;> try (simp at h; done)
 rename_i n' e' h1
 cases hi : P.info? e' with
 | none => rw [hi] at h; cases h
 | some i =>
  rw [hi] at h
  simp at h
  obtain ⟨rfl, rfl, rfl⟩ := h
  exact ⟨h1, i, hi, rfl⟩
theorem arrAt_run {P : Program} {t e : TypeId} {n sz : Nat} (h : arT P t = some (n, e, sz)) (k : IntKind) (i : Int) (b o : Nat) (h0 : 0 ≤ i) (h1 : i < n) (w : World) :
  (Instr.indexAt t (.pointer (some ⟨b, o, none⟩)) (.int k i)).run P w = .ok (.pointer (some ⟨b, o + i.toNat * sz, none⟩)) w := by
 obtain ⟨h2, j, h3, h4⟩ := arT_run h
 have hadd : (⟨b, o, none⟩ : Addr).add (i.toNat * sz) = ⟨b, o + i.toNat * sz, none⟩ := by unfold Addr.add; split <;> simp_all
 simp [Instr.indexAt, asIntOf, Instr.sureAddr, underlying, h2, h0, h1, sizeOf, typeInfo, h3, h4, hadd]
section
variable {P : Program} {e : En} {N : Nat} {st : St} {a : Act} {w : World} {σ : Nat → Value} {o : Oper} {p : Prop} {x : AV}
theorem own_ptr (hW : RW e st.H st.nx σ w) {nm s' off : Nat} {v : Value} (hv : denA (kx e st.H st.nx σ w) v (.val (.one (.ptr nm s' off)))) {B : Blk} (hB : st.H nm = some B) (hs : B.st = s') :
  ∃ b, (σ nm).ownBlock = some b ∧ v = .pointer (some ⟨b, off, none⟩) ∧ ∃ xs, w.ownsRow e.w0.heap.size B.E B.sz (σ nm) B.n xs ∧ denVs (kx e st.H st.nx σ w) xs B.cs := by
 simp only [denA, den1, den] at hv
 obtain ⟨b, h1, h2⟩ := hv.2.2 B hB hs
 obtain ⟨_, _, xs, h3, h4⟩ := hW.rowOf hB (.inr (.inr ⟨b, h1⟩))
 exact ⟨b, h1, h2, xs, h3, h4⟩
theorem cell_FL {w w' : World} (h : FL w w') {q : Addr} {v : Value} (hc : w.cell? q = some v) : w'.cell? q = some v := by
 rw [FL.cell h (by rw [hc]; rfl)]; exact hc
theorem add_lit (b o n : Nat) : (⟨b, o, none⟩ : Addr).add n = ⟨b, o + n, none⟩ := by unfold Addr.add; split <;> simp_all
theorem load_at {w : World} {κ : Kx} {t : TypeId} {ag : Bool} {sz b off k : Nat} {us : List Value} {cs : List C} (hl : ldT P t = some (ag, sz)) (hd : denVs κ us cs) (hk : k + sz ≤ cs.length) (ha : ag = true ∨ sz = 1)
  (hc : ∀ j u, us[j]? = some u → w.cell? ⟨b, off + j, none⟩ = some u) :
  ∃ v, (∀ w', FL w w' → (Instr.loadAt t (.pointer (some ⟨b, off + k, none⟩))).run P w' = .ok v w') ∧ denA κ v (cut ag sz k cs) := by
 have hlen := hd.length
 cases ag with
 | true =>
  refine ⟨.agg ((us.drop k).take sz).toArray, fun w' hF => ?_, ?_⟩
  ·have hsz : ((us.drop k).take sz).length = sz := by simp; omega
   have h1 := run_loadCells_list (P := P) w' ⟨b, off + k, none⟩ ((us.drop k).take sz) (fun j v hv => by
    rw [add_lit]
    have hj : j < sz := by
     have := (List.getElem?_eq_some_iff.1 hv).1; omega
    rw [List.getElem?_take, if_pos hj, List.getElem?_drop] at hv
    have := hc (k + j) v hv
    rw [← Nat.add_assoc] at this
    exact cell_FL hF this)
   rw [hsz] at h1
   simp [Instr.loadAt, Instr.sureAddr, loadVar, (ldT_agg hl w').1, (ldT_agg hl w').2, h1]
  simp only [cut, if_true, denA, den1]
  exact ⟨_, rfl, (hd.drop k).take sz⟩
 | false =>
  obtain rfl : sz = 1 := by simpa using ha
  have hk' : k < cs.length := by omega
  obtain ⟨u, h1, h2⟩ := hd.get k (List.getElem?_eq_getElem hk')
  refine ⟨u, fun w' hF => ?_, ?_⟩
  ·have := cell_FL hF (hc k u h1)
   simp [Instr.loadAt, Instr.sureAddr, loadVar, (ldT_one hl w').1, this]
  simp only [cut, List.getElem?_eq_getElem hk', denA, den1]
  simpa using h2
theorem stillAddr_ok (hW : RW e st.H st.nx σ w) (ht : ∀ t, denA (kx e st.H st.nx σ w) (a.tmps.getD t undef) (st.tm t)) (h : stillAddr P st o.op = some (p, x)) (hp : p) : Yl P o a w (kx e st.H st.nx σ w) x := by
 generalize hop : o.op = op at h
 cases op <;> simp only [stillAddr] at h <;> try (cases h; done)
 case load t y =>
  have hy := ev_den ht y
  split at h <;> try (cases h; done)
  ·rename_i nm s' off ag sz hey hl
   rw [hey] at hy
   split at h <;> try (cases h; done)
   rename_i B hB
   simp only [Option.some.injEq, Prod.mk.injEq] at h
   obtain ⟨rfl, rfl⟩ := h
   obtain ⟨hs, hk, ha⟩ := hp
   obtain ⟨b, h1, h2, xs, h3, h4⟩ := own_ptr hW hy hB hs
   obtain ⟨v, h5, h6⟩ := load_at (P := P) (w := w) (b := b) (off := 0) hl h4 hk ha (fun j u hu => by have := h3.cells h1 j u hu; rwa [add_lit] at this)
   refine ⟨v, fun w' hF => ?_, h6⟩
   have := h5 w' (hF.resolve_right (by simp [reads, hop]))
   rw [Nat.zero_add] at this
   simp only [execOp, hop, h2, Sem.run_bind, this, Result.andThen_ok, Sem.run_pure]
  rename_i cs ag sz hey hl
  rw [hey] at hy
  simp only [Option.some.injEq, Prod.mk.injEq] at h
  obtain ⟨rfl, rfl⟩ := h
  obtain ⟨hk, ha⟩ := hp
  simp only [denA, den1, den] at hy
  obtain ⟨b, off, h1, h2, h3⟩ := hy
  obtain ⟨us, h4, h5⟩ := h3.vals
  obtain ⟨v, h6, h7⟩ := load_at (P := P) (w := w) (b := b) (off := off) hl h4 (k := 0) (by omega) ha h5
  refine ⟨v, fun w' hF => ?_, h7⟩
  have := h6 w' (hF.resolve_right (by simp [reads, hop]))
  rw [Nat.add_zero] at this
  simp only [execOp, hop, h1, Sem.run_bind, this, Result.andThen_ok, Sem.run_pure]
 case nilCheck y =>
  have hy := ev_den ht y
  split at h <;> try (cases h; done)
  ·rename_i nm s' off hey
   rw [hey] at hy
   simp only [Option.some.injEq, Prod.mk.injEq] at h
   obtain ⟨rfl, rfl⟩ := h
   obtain ⟨B, hB, hs⟩ := hp
   obtain ⟨b, h1, h2, _⟩ := own_ptr hW hy hB hs
   refine ⟨_, fun w' hF => ?_, hy⟩
   simp [execOp, hop, h2]
  rename_i cs hey
  rw [hey] at hy
  simp only [Option.some.injEq, Prod.mk.injEq] at h
  obtain ⟨rfl, rfl⟩ := h
  have hy' := hy
  simp only [denA, den1, den] at hy'
  obtain ⟨b, off, h1, _⟩ := hy'
  refine ⟨_, fun w' hF => ?_, hy⟩
  simp [execOp, hop, h1]
 case fieldAddr s y f =>
  have hy := ev_den ht y
  split at h <;> try (cases h; done)
  ·rename_i nm s' off o' ft hey hf
   rw [hey] at hy
   simp only [Option.some.injEq, Prod.mk.injEq] at h
   obtain ⟨rfl, rfl⟩ := h
   obtain ⟨B, hB, hs⟩ := hp
   obtain ⟨b, h1, h2, _⟩ := own_ptr hW hy hB hs
   refine ⟨.pointer (some ⟨b, off + o', none⟩), fun w' hF => ?_, ?_⟩
   ·simp only [execOp, hop, h2, Sem.run_bind, foT_run hf, Result.andThen_ok, Sem.run_pure]
   simp only [denA, den1, den] at hy ⊢
   exact ⟨rfl, hy.2.1, fun B' hB' hs' => ⟨b, h1, rfl⟩⟩
  rename_i cs o' ft hey hf
  rw [hey] at hy
  simp only [Option.some.injEq, Prod.mk.injEq] at h
  obtain ⟨rfl, rfl⟩ := h
  simp only [denA, den1, den] at hy
  obtain ⟨b, off, h1, h2, h3⟩ := hy
  refine ⟨.pointer (some ⟨b, off + o', none⟩), fun w' hF => ?_, ?_⟩
  ·simp only [execOp, hop, h1, Sem.run_bind, foT_run hf, Result.andThen_ok, Sem.run_pure]
  simp only [denA, den1, den]
  exact ⟨b, off + o', rfl, h2, h3.drop o'⟩
 case indexAddr t y ix =>
  have hy := ev_den ht y
  have hx := ev_den ht ix
  split at h <;> try (cases h; done)
  ·rename_i nm s' n sz k i e' sz' by_ hey hex hl
   rw [hey] at hy
   rw [hex] at hx
   simp only [Option.some.injEq, Prod.mk.injEq] at h
   obtain ⟨rfl, rfl⟩ := h
   obtain ⟨rfl, h0, h1, B, hB, hs⟩ := hp
   simp only [denA, den1, den] at hy hx
   obtain ⟨h2, h3, h4⟩ := hy.2.2 B hB hs
   obtain ⟨_, _, xs, h5, h6⟩ := hW.rowOf hB (.inr (.inl (by omega)))
   have h2' : a.eval y = σ nm := h2
   rcases h5.2 with ⟨h7, h8⟩ | ⟨g, cap, cur, h7, _⟩
   ·omega
   have h7' : σ nm = .slice (some ⟨g, 0, none⟩) B.n cap := h7
   refine ⟨.pointer (some ⟨g, i.toNat * sz, none⟩), fun w' hF => ?_, ?_⟩
   ·have := indexAt_run (P := P) hl k i g 0 B.n cap h0 (by omega) w'
    rw [Nat.zero_add] at this
    simp only [execOp, hop, h2', h7', hx.1, Sem.run_bind, this, Result.andThen_ok, Sem.run_pure]
   simp only [denA, den1, den]
   refine ⟨rfl, hy.2.1, fun B' hB' hs' => ⟨g, ?_, rfl⟩⟩
   show (σ nm).ownBlock = some g
   rw [h7']; rfl
  ·rename_i sz n cs k i e' sz' by_ hey hex hl
   rw [hey] at hy
   rw [hex] at hx
   simp only [Option.some.injEq, Prod.mk.injEq] at h
   obtain ⟨rfl, rfl⟩ := h
   obtain ⟨rfl, h0, h1⟩ := hp
   simp only [denA, den1, den] at hy hx
   obtain ⟨ad, cap, h2, h3, h4, h5, h6, h7⟩ := hy
   rcases h7 with h7 | ⟨b, off, rfl, h8, h9⟩
   ·omega
   refine ⟨.pointer (some ⟨b, off + i.toNat * sz, none⟩), fun w' hF => ?_, ?_⟩
   ·simp only [execOp, hop, h2, hx.1, Sem.run_bind, indexAt_run hl k i b off n cap h0 h1, Result.andThen_ok, Sem.run_pure]
   simp only [denA, den1, den]
   exact ⟨b, _, rfl, h8, h9.drop _⟩
  ·rename_i nm s' off k i n e' sz hey hex hl
   rw [hey] at hy
   rw [hex] at hx
   simp only [Option.some.injEq, Prod.mk.injEq] at h
   obtain ⟨rfl, rfl⟩ := h
   obtain ⟨h0, h1, B, hB, hs⟩ := hp
   obtain ⟨b, h2, h3, _⟩ := own_ptr hW hy hB hs
   simp only [denA, den1, den] at hx
   refine ⟨.pointer (some ⟨b, off + i.toNat * sz, none⟩), fun w' hF => ?_, ?_⟩
   ·simp only [execOp, hop, h3, hx.1, Sem.run_bind, arrAt_run hl k i b off h0 h1, Result.andThen_ok, Sem.run_pure]
   simp only [denA, den1, den] at hy ⊢
   exact ⟨rfl, hy.2.1, fun B' hB' hs' => ⟨b, h2, rfl⟩⟩
  rename_i cs k i n e' sz hey hex hl
  rw [hey] at hy
  rw [hex] at hx
  simp only [Option.some.injEq, Prod.mk.injEq] at h
  obtain ⟨rfl, rfl⟩ := h
  obtain ⟨h0, h1⟩ := hp
  simp only [denA, den1, den] at hy hx
  obtain ⟨b, off, h2, h3, h4⟩ := hy
  refine ⟨.pointer (some ⟨b, off + i.toNat * sz, none⟩), fun w' hF => ?_, ?_⟩
  ·simp only [execOp, hop, h2, hx.1, Sem.run_bind, arrAt_run hl k i b off h0 h1, Result.andThen_ok, Sem.run_pure]
  simp only [denA, den1, den]
  exact ⟨b, _, rfl, h3, h4.drop _⟩
theorem part_at {κ : Kx} {t : TypeId} {ag : Bool} {sz k : Nat} {us : List Value} {cs : List C} (hl : ldT P t = some (ag, sz)) (hd : denVs κ us cs) (hk : k + sz ≤ cs.length) (ha : ag = true ∨ sz = 1) :
    ∃ v, (∀ w', (part t us.toArray k).run P w' = .ok v w') ∧ denA κ v (cut ag sz k cs) := by
  have hlen := hd.length
  cases ag with
  | true =>
    refine ⟨.agg ((us.drop k).take sz).toArray, fun w' => ?_, ?_⟩
    · have : us.toArray.extract k (k + sz) = ((us.drop k).take sz).toArray := by
        simp
      simp only [part, Sem.run_bind, (ldT_agg hl w').1, Result.andThen_ok, if_true, (ldT_agg hl w').2, Sem.run_pure, this]
    simp only [cut, if_true, denA, den1]
    exact ⟨_, rfl, (hd.drop k).take sz⟩
  | false =>
    obtain rfl : sz = 1 := by simpa using ha
    have hk' : k < cs.length := by omega
    obtain ⟨u, h1, h2⟩ := hd.get k (List.getElem?_eq_getElem hk')
    refine ⟨u, fun w' => ?_, ?_⟩
    · simp [part, (ldT_one hl w').1, h1]
    simp only [cut, List.getElem?_eq_getElem hk', denA, den1]
    simpa using h2
theorem litsOf_den {κ : Kx} : ∀ {cs : List C} {us vs : List Value}, litsOf cs = some us → denVs κ vs cs → vs = us
 | [], us, vs, h, d => by
  simp [litsOf] at h
  subst h
  exact List.eq_nil_of_length_eq_zero d.length
 | c :: cs, us, [], h, d => d.elim
 | .lit v :: cs, us, u :: vs, h, d => by
  simp only [litsOf, Option.map_eq_some_iff] at h
  obtain ⟨l, h1, rfl⟩ := h
  have h2 := d.1
  simp only [den] at h2
  rw [litsOf_den h1 d.2, h2.1]
 | .sh .. :: _, _, _ :: _, h, _ => by simp [litsOf] at h
 | .own .. :: _, _, _ :: _, h, _ => by simp [litsOf] at h
 | .ptr .. :: _, _, _ :: _, h, _ => by simp [litsOf] at h
 | .sp .. :: _, _, _ :: _, h, _ => by simp [litsOf] at h
 | .dead :: _, _, _ :: _, h, _ => by simp [litsOf] at h
theorem eqGuard_false {op : BinOp} {t : TypeId} {x y : Operand} {us vs : Array Value} (h : P.eqGuardType P.depth t = false) (w : World) : (eqGuard op t x y (.agg us) (.agg vs)).run P w = .ok () w := by
 cases op <;> simp [eqGuard, h]
theorem bnd_ok (ht : ∀ t, denA (kx e st.H st.nx σ w) (a.tmps.getD t undef) (st.tm t)) {y : Option Operand} {d n : Nat} (h : bnd st y d = some (p, n)) (hp : p) :
  (y = none ∧ n = d) ∨ ∃ z k, y = some z ∧ a.eval z = .int k (n : Int) := by
 unfold bnd at h
 split at h
 ·simp at h; exact .inl ⟨rfl, h.2.symm⟩
 rename_i z
 have hz := ev_den ht z
 split at h <;> try (cases h; done)
 rename_i k i hez
 rw [hez] at hz
 simp only [Option.some.injEq, Prod.mk.injEq] at h
 obtain ⟨rfl, rfl⟩ := h
 simp only [denA, den1, den] at hz
 exact .inr ⟨z, k, rfl, by rw [hz.1]; congr 1; exact (Int.toNat_of_nonneg hp).symm⟩
end
section
variable {P : Program} {e : En} {N : Nat} {st : St} {a : Act} {w : World} {σ : Nat → Value} {o : Oper} {p : Prop} {x : AV}
theorem field_run {t : TypeId} {f off : Nat} {ft : TypeId} (h : foT P t f = some (off, ft)) (us : Array Value) (w : World) : (Instr.field t (.agg us) f).run P w = (part ft us off).run P w := by
 unfold foT at h
 split at h <;> try (simp at h; done)
 rename_i fs h1
 split at h <;> try (simp at h; done)
 rename_i fl h2
 split at h <;> try (simp at h; done)
 rename_i i h3
 split at h <;> try (simp at h; done)
 have h5 := Option.some.inj h
 have h6 : fl.offset = off := congrArg Prod.fst h5
 have h7 : fl.type = ft := congrArg Prod.snd h5
 simp [Instr.field, underlying, h1, h2, asAgg, h6, h7]
theorem stillVal_ok (hW : RW e st.H st.nx σ w) (ht : ∀ t, denA (kx e st.H st.nx σ w) (a.tmps.getD t undef) (st.tm t)) (h : stillVal P st o.op = some (p, x)) (hp : p) : Yl P o a w (kx e st.H st.nx σ w) x := by
 generalize hop : o.op = op at h
 cases op <;> simp only [stillVal] at h <;> try (cases h; done)
 case move y =>
  simp only [Option.some.injEq, Prod.mk.injEq] at h
  obtain ⟨rfl, rfl⟩ := h
  exact ⟨a.eval y, fun w' _ => by simp [execOp, hop], ev_den ht y⟩
 case assign y =>
  simp only [Option.some.injEq, Prod.mk.injEq] at h
  obtain ⟨rfl, rfl⟩ := h
  exact ⟨a.eval y, fun w' _ => by simp [execOp, hop], ev_den ht y⟩
 case pick c y z =>
  have hc := ev_den ht c
  split at h <;> try (cases h; done)
  rename_i t hec
  rw [hec] at hc
  simp only [Option.some.injEq, Prod.mk.injEq] at h
  obtain ⟨rfl, rfl⟩ := h
  simp only [denA, den1, den] at hc
  refine ⟨if t then a.eval y else a.eval z, fun w' _ => by simp [execOp, hop, hc.1, asBool], ?_⟩
  cases t
  ·exact ev_den ht z
  exact ev_den ht y
 case field xt y f =>
  have hy := ev_den ht y
  split at h <;> try (cases h; done)
  rename_i cs o' ft hey hf
  rw [hey] at hy
  split at h <;> try (cases h; done)
  rename_i ag sz hl
  simp only [Option.some.injEq, Prod.mk.injEq] at h
  obtain ⟨rfl, rfl⟩ := h
  obtain ⟨us, h1, h2⟩ := hy
  obtain ⟨v, h3, h4⟩ := part_at (P := P) hl h2 hp.1 hp.2
  exact ⟨v, fun w' _ => by simp only [execOp, hop, h1, Sem.run_bind, field_run hf, h3 w', Result.andThen_ok, Sem.run_pure], h4⟩
 case extract y i =>
  have hy := ev_den ht y
  split at h <;> try (cases h; done)
  rename_i l hey
  rw [hey] at hy
  split at h <;> try (cases h; done)
  rename_i b hb
  simp only [Option.some.injEq, Prod.mk.injEq] at h
  obtain ⟨rfl, rfl⟩ := h
  obtain ⟨vs, h1, h2⟩ := hy
  have key : ∀ (l : List A1) (vs : List Value) (i : Nat) (b : A1), den1s (kx e st.H st.nx σ w) vs l → l[i]? = some b → ∃ v, vs[i]? = some v ∧ den1 (kx e st.H st.nx σ w) v b := by
   intro l
   induction l with
   | nil => intro vs i b _ h; simp at h
   | cons c l ih =>
    intro vs i b hd hb
    cases vs with
    | nil => exact hd.elim
    | cons v vs =>
     cases i with
     | zero => simp at hb; subst hb; exact ⟨v, rfl, hd.1⟩
     | succ i => simp at hb; simpa using ih vs i b hd.2 hb
  obtain ⟨v, h3, h4⟩ := key l vs i b h2 hb
  exact ⟨v, fun w' _ => by simp [execOp, hop, h1, Instr.extract, h3], h4⟩
 case binOp op t y z yt =>
  have hy := ev_den ht y
  have hz := ev_den ht z
  split at h <;> try (cases h; done)
  ·rename_i u v hey hez
   rw [hey] at hy
   rw [hez] at hz
   split at h <;> try (cases h; done)
   rename_i q r hb
   simp only [Option.some.injEq, Prod.mk.injEq] at h
   obtain ⟨rfl, rfl⟩ := h
   simp only [denA, den1, den] at hy hz
   refine ⟨r, fun w' _ => ?_, ?_⟩
   ·have := (abin_run (x := y) (y := z) hb hp w').1
    simp only [execOp, hop, hy.1, hz.1]
    rw [Sem.run_bind, this]; rfl
   simp only [denA, den1, den]
   exact ⟨trivial, (abin_run (x := y) (y := z) hb hp w).2⟩
  rename_i xs ys hey hez
  rw [hey] at hy
  rw [hez] at hz
  split at h <;> try (cases h; done)
  rename_i us vs hu hv
  obtain ⟨us', h1, h2⟩ := hy
  obtain ⟨vs', h3, h4⟩ := hz
  obtain rfl := litsOf_den hu h2
  obtain rfl := litsOf_den hv h4
  cases op <;> simp only [reduceCtorEq, Option.some.injEq, Prod.mk.injEq] at h
  ·obtain ⟨rfl, rfl⟩ := h
   refine ⟨.bool (eqVs us' vs'), fun w' _ => ?_, ?_⟩
   ·have := hp w'
    simp only [execOp, hop, h1, h3, Sem.run_bind, eqGuard_false this.2, Result.andThen_ok, binOp, this.1, Sem.run_pure]
   simp only [denA, den1, den]; exact ⟨trivial, rfl⟩
  obtain ⟨rfl, rfl⟩ := h
  refine ⟨.bool (!eqVs us' vs'), fun w' _ => ?_, ?_⟩
  ·have := hp w'
   simp only [execOp, hop, h1, h3, Sem.run_bind, eqGuard_false this.2, Result.andThen_ok, binOp, this.1, Sem.run_pure]
  simp only [denA, den1, den]; exact ⟨trivial, rfl⟩
 case unOp op t y =>
  have hy := ev_den ht y
  cases op <;> simp only [reduceCtorEq] at h
  ·split at h <;> try (cases h; done)
   rename_i k n hey
   rw [hey] at hy
   simp only [denA, den1, den] at hy
   split at h
   ·rename_i hk
    subst hk
    simp only [Option.some.injEq, Prod.mk.injEq] at h
    obtain ⟨rfl, rfl⟩ := h
    refine ⟨.int .i64 (0 - n), fun w' _ => ?_, by simp only [denA, den1, den]; exact ⟨trivial, rfl⟩⟩
    have := wrap_in hp
    simp only [execOp, hop, hy.1, Op.unary, Op.intArith, this, Sem.run_bind, Sem.run_pure, Result.andThen_ok]
   simp only [Option.some.injEq, Prod.mk.injEq] at h
   obtain ⟨rfl, rfl⟩ := h
   refine ⟨.int k (k.wrap (0 - n)), fun w' _ => ?_, by simp only [denA, den1, den]; exact ⟨trivial, rfl⟩⟩
   simp only [execOp, hop, hy.1, Op.unary, Op.intArith, Sem.run_bind, Sem.run_pure, Result.andThen_ok]
  split at h <;> try (cases h; done)
  rename_i t hey
  rw [hey] at hy
  simp only [Option.some.injEq, Prod.mk.injEq] at h
  obtain ⟨rfl, rfl⟩ := h
  simp only [denA, den1, den] at hy
  exact ⟨.bool (!t), fun w' _ => by simp [execOp, hop, hy.1, Op.unary], by simp only [denA, den1, den]; exact ⟨trivial, rfl⟩⟩
 case convert s d y =>
  have hy := ev_den ht y
  split at h <;> try (cases h; done)
  rename_i k0 n k hey hd
  rw [hey] at hy
  simp only [denA, den1, den] at hy
  split at h
  ·rename_i hk
   subst hk
   simp only [Option.some.injEq, Prod.mk.injEq] at h
   obtain ⟨rfl, rfl⟩ := h
   obtain ⟨hi, hs⟩ := hp
   obtain ⟨sd, hs⟩ := Option.isSome_iff_exists.1 hs
   refine ⟨.int .i64 n, fun w' _ => ?_, by simp only [denA, den1, den]; exact ⟨trivial, rfl⟩⟩
   simp [execOp, hop, hy.1, convert, underlying, hd, hs, Conv.intToInt, wrap_in hi]
  simp only [Option.some.injEq, Prod.mk.injEq] at h
  obtain ⟨rfl, rfl⟩ := h
  obtain ⟨sd, hs⟩ := Option.isSome_iff_exists.1 hp
  refine ⟨.int k (k.wrap n), fun w' _ => ?_, by simp only [denA, den1, den]; exact ⟨trivial, rfl⟩⟩
  simp [execOp, hop, hy.1, convert, underlying, hd, hs, Conv.intToInt]
 case index t y ix =>
  have hy := ev_den ht y
  have hx := ev_den ht ix
  split at h <;> try (cases h; done)
  ·rename_i s k i hey hex
   rw [hey] at hy
   rw [hex] at hx
   simp only [Option.some.injEq, Prod.mk.injEq] at h
   obtain ⟨rfl, rfl⟩ := h
   obtain ⟨hu, h0, h1⟩ := hp
   simp only [denA, den1, den] at hx hy
   refine ⟨.int .u8 ((s.data.toList.getD i.toNat 0).toNat : Int), fun w' _ => ?_, by simp only [denA, den1, den]; exact ⟨trivial, rfl⟩⟩
   have hlt : i.toNat < s.size := by omega
   have hget : s[i.toNat]? = some (s.data.toList.getD i.toNat 0) := by
    have h2 : i.toNat < s.data.toList.length := by simpa using hlt
    rw [getElem?_pos s i.toNat hlt]
    simp only [List.getD_eq_getElem?_getD, List.getElem?_eq_getElem h2, Option.getD_some]
    rfl
   simp only [execOp, hop, hy.1, hx.1, Sem.run_bind, Instr.index, asIntOf, Sem.run_pure, Result.andThen_ok, run_underlying hu, h0, if_true, hget]
  rename_i cs k i hey hex
  rw [hey] at hy
  rw [hex] at hx
  split at h <;> try (cases h; done)
  rename_i n e' sz har
  split at h <;> try (cases h; done)
  rename_i ag sz' hl
  simp only [Option.some.injEq, Prod.mk.injEq] at h
  obtain ⟨rfl, rfl⟩ := h
  obtain ⟨h0, h1, rfl, h2, h3⟩ := hp
  simp only [denA, den1, den] at hx
  obtain ⟨us, h4, h5⟩ := hy
  obtain ⟨g1, j, g2, g3⟩ := arT_run har
  obtain ⟨v, h6, h7⟩ := part_at (P := P) hl h5 h2 h3
  refine ⟨v, fun w' _ => ?_, h7⟩
  have hc : 0 ≤ i ∧ i < (n : Int) := ⟨h0, h1⟩
  simp only [execOp, hop, h4, hx.1, Sem.run_bind, Instr.index, asIntOf, Sem.run_pure, Result.andThen_ok, run_underlying g1, Sem.run_ite, if_pos hc, sizeOf, typeInfo, run_program, g2, g3, h6 w']
 case slice t y lo hi mx =>
  cases mx <;> simp only [reduceCtorEq] at h
  have hy := ev_den ht y
  split at h <;> try (cases h; done)
  ·rename_i sz n cs hey
   rw [hey] at hy
   split at h <;> try (cases h; done)
   rename_i e' sz' by_ p1 l p2 hh hel hb1 hb2
   simp only [Option.some.injEq, Prod.mk.injEq] at h
   obtain ⟨rfl, rfl⟩ := h
   obtain ⟨rfl, hp1, hp2, hlh, hhn⟩ := hp
   obtain ⟨g1, j, g2, g3, _⟩ := elT_run hel
   simp only [denA, den1, den] at hy
   obtain ⟨ad, cap, h1, h2, h3, h4, h5, h6⟩ := hy
   have e1 : ∀ w', (Instr.sliceBounds true n cap (lo.map a.eval) (hi.map a.eval) none).run P w' = .ok (l, hh, cap) w' := fun w' => by
    have f2 : (0 : Int) ≤ (hh : Int) ∧ (hh : Int) ≤ (cap : Int) := ⟨by omega, by omega⟩
    have f1 : (0 : Int) ≤ (l : Int) ∧ (l : Int) ≤ (hh : Int) := ⟨by omega, by omega⟩
    rcases bnd_ok ht hb1 hp1 with ⟨rfl, rfl⟩ | ⟨z1, k1, rfl, q1⟩ <;> rcases bnd_ok ht hb2 hp2 with ⟨rfl, rfl⟩ | ⟨z2, k2, rfl, q2⟩
    ·simp [Instr.sliceBounds]
    ·simp only [Instr.sliceBounds, Option.map_some, Option.map_none, q2, Instr.sliceBound, asIntOf, Sem.run_bind, Sem.run_pure, Result.andThen_ok, Sem.run_ite, if_pos f2, Int.toNat_natCast]
    ·simp only [Instr.sliceBounds, Option.map_some, Option.map_none, q1, Instr.sliceBound, asIntOf, Sem.run_bind, Sem.run_pure, Result.andThen_ok, Sem.run_ite, if_pos f1, Int.toNat_natCast]
    simp only [Instr.sliceBounds, Option.map_some, Option.map_none, q1, q2, Instr.sliceBound, asIntOf, Sem.run_bind, Sem.run_pure, Result.andThen_ok, Sem.run_ite, if_pos f1, if_pos f2, Int.toNat_natCast]
   refine ⟨.slice (if cap = l then ad else ad.map (·.add (l * sz))) (hh - l) (cap - l), fun w' _ => ?_, ?_⟩
   ·simp only [execOp, hop, h1, Sem.run_bind, Instr.sliceAt, run_underlying g1, Result.andThen_ok, Instr.slice, e1 w', sizeOf, typeInfo, run_program, g2, g3, Sem.run_pure, Option.map_none]
   simp only [denA, den1, den]
   refine ⟨_, _, rfl, by omega, by omega, fun hnone => ?_, ?_, ?_⟩
   ·split at hnone
    ·have := h4 hnone; omega
    cases ad with
    | none => have := h4 rfl; omega
    | some q => simp at hnone
   ·have hle : l * sz + (hh - l) * sz ≤ n * sz := by rw [← Nat.add_mul]; exact Nat.mul_le_mul_right _ (by omega)
    simp; omega
   rcases h6 with h6 | ⟨b, off, rfl, h7, h8⟩
   ·exact .inl (by omega)
   by_cases hcl : cap = l
   ·exact .inl (by omega)
   refine .inr ⟨b, off + l * sz, ?_, h7, ?_⟩
   ·rw [if_neg hcl]; simp [add_lit]
   exact (h8.drop (l * sz)).take _
  rename_i s hey
  rw [hey] at hy
  split at h <;> try (cases h; done)
  rename_i p1 l p2 hh hb1 hb2
  simp only [Option.some.injEq, Prod.mk.injEq] at h
  obtain ⟨rfl, rfl⟩ := h
  obtain ⟨hu, hp1, hp2, hlh, hhn⟩ := hp
  simp only [denA, den1, den] at hy
  have e1 : ∀ w', (Instr.sliceBounds false s.size s.size (lo.map a.eval) (hi.map a.eval) none).run P w' = .ok (l, hh, s.size) w' := fun w' => by
   have f2 : (0 : Int) ≤ (hh : Int) ∧ (hh : Int) ≤ (s.size : Int) := ⟨by omega, by omega⟩
   have f1 : (0 : Int) ≤ (l : Int) ∧ (l : Int) ≤ (hh : Int) := ⟨by omega, by omega⟩
   rcases bnd_ok ht hb1 hp1 with ⟨rfl, rfl⟩ | ⟨z1, k1, rfl, q1⟩ <;> rcases bnd_ok ht hb2 hp2 with ⟨rfl, rfl⟩ | ⟨z2, k2, rfl, q2⟩
   ·simp [Instr.sliceBounds]
   ·simp only [Instr.sliceBounds, Option.map_some, Option.map_none, q2, Instr.sliceBound, asIntOf, Sem.run_bind, Sem.run_pure, Result.andThen_ok, Sem.run_ite, if_pos f2, Int.toNat_natCast]
   ·simp only [Instr.sliceBounds, Option.map_some, Option.map_none, q1, Instr.sliceBound, asIntOf, Sem.run_bind, Sem.run_pure, Result.andThen_ok, Sem.run_ite, if_pos f1, Int.toNat_natCast]
   simp only [Instr.sliceBounds, Option.map_some, Option.map_none, q1, q2, Instr.sliceBound, asIntOf, Sem.run_bind, Sem.run_pure, Result.andThen_ok, Sem.run_ite, if_pos f1, if_pos f2, Int.toNat_natCast]
  refine ⟨.string (s.extract l hh), fun w' _ => ?_, by simp only [denA, den1, den]; exact ⟨trivial, rfl⟩⟩
  simp only [execOp, hop, hy.1, Sem.run_bind, Instr.sliceAt, run_underlying hu, Result.andThen_ok, Instr.slice, e1 w', Sem.run_pure, Option.map_none, Option.isSome_none, Bool.false_eq_true, if_false]
theorem stillCall_ok {c : Call} (hW : RW e st.H st.nx σ w) (ht : ∀ t, denA (kx e st.H st.nx σ w) (a.tmps.getD t undef) (st.tm t)) (hop : o.op = .call c) (h : stillCall P st c = some (p, x)) (hp : p) : Yl P o a w (kx e st.H st.nx σ w) x := by
 obtain ⟨callee, args, argTypes⟩ := c
 simp only [stillCall] at h
 split at h <;> try (cases h; done)
 split at h <;> try (cases h; done)
 rename_i y t hargs htys
 have ha : args = #[y] := Array.toList_inj.1 hargs
 have hty : argTypes = #[t] := Array.toList_inj.1 htys
 subst ha hty
 have hy := ev_den ht y
 have hrun : ∀ v w', (Builtin.len_ #[t] o.type #[a.eval y]).run P w' = .ok v w' → (execOp a.eval o).run P w' = .ok (.value v) w' := fun v w' hv => by
  simp [execOp, hop, resolve, invoke, builtin, hv]
 split at h
 ·rename_i s hey
  rw [hey] at hy
  simp only [Option.some.injEq, Prod.mk.injEq] at h
  obtain ⟨rfl, rfl⟩ := h
  simp only [denA, den1, den] at hy
  refine ⟨.int .i64 s.size, fun w' _ => hrun _ _ ?_, by simp only [denA, den1, den]; exact ⟨trivial, rfl⟩⟩
  rw [hy.1, run_len_string _ _ _ _ hp]; rfl
 split at h <;> try (cases h; done)
 rename_i n el hn hel
 simp only [Option.some.injEq, Prod.mk.injEq] at h
 obtain ⟨hp', rfl⟩ := h
 rw [← hp'] at hp
 have key : ∃ ad cap, a.eval y = .slice ad n cap := by
  unfold lenA at hn
  split at hn <;> try (cases hn; done)
  ·rename_i nm s' n' sz hey
   rw [hey] at hy hp
   obtain rfl := Option.some.inj hn
   obtain ⟨hsz, B, hB, hs⟩ := hp
   simp only [denA, den1, den] at hy
   obtain ⟨h1, h2, h3⟩ := hy.2.2 B hB hs
   obtain ⟨_, _, xs, h5, h6⟩ := hW.rowOf hB (.inl (by rw [h3]; exact hsz))
   have h1' : a.eval y = σ nm := h1
   rcases h5.2 with ⟨h7, h8⟩ | ⟨g, cap, cur, h7, _⟩
   ·exact ⟨none, 0, by rw [h1', ← h2, h8]; exact h7⟩
   exact ⟨some ⟨g, 0, none⟩, cap, by rw [h1', ← h2]; exact h7⟩
  ·rename_i sz n' cs hey
   rw [hey] at hy
   obtain rfl := Option.some.inj hn
   simp only [denA, den1, den] at hy
   obtain ⟨ad, cap, h1, _⟩ := hy
   exact ⟨ad, cap, h1⟩
  rename_i ad n' cap hey
  rw [hey] at hy
  obtain rfl := Option.some.inj hn
  simp only [denA, den1, den] at hy
  exact ⟨ad, cap, hy.1⟩
 obtain ⟨ad, cap, hv⟩ := key
 obtain ⟨e', sz, by_⟩ := el
 obtain ⟨g1, _⟩ := elT_run hel
 refine ⟨.int .i64 n, fun w' _ => hrun _ _ ?_, by simp only [denA, den1, den]; exact ⟨trivial, rfl⟩⟩
 rw [hv]
 simp [Builtin.len_, run_underlying g1, goInt]
theorem still_ok (hW : RW e st.H st.nx σ w) (ht : ∀ t, denA (kx e st.H st.nx σ w) (a.tmps.getD t undef) (st.tm t)) (h : still P st o.op = some (p, x)) (hp : p) : Yl P o a w (kx e st.H st.nx σ w) x := by
 unfold still at h
 split at h
 ·exact stillAddr_ok hW ht h hp
 ·exact stillAddr_ok hW ht h hp
 ·exact stillAddr_ok hW ht h hp
 ·exact stillAddr_ok hW ht h hp
 ·rename_i hop; exact stillCall_ok hW ht hop h hp
 exact stillVal_ok hW ht h hp
end
def spl {α : Type} (cs : List α) (off : Nat) (ds : List α) : List α := cs.take off ++ ds ++ cs.drop (off + ds.length)
theorem spl_length {α : Type} (cs : List α) (off : Nat) (ds : List α) (h : off + ds.length ≤ cs.length) : (spl cs off ds).length = cs.length := by
 simp [spl]; omega
theorem denVs_spl {κ : Kx} {vs us : List Value} {cs ds : List C} (h : denVs κ vs cs) (k : denVs κ us ds) (off : Nat) : denVs κ (spl vs off us) (spl cs off ds) := by
 unfold spl
 rw [k.length]
 exact ((h.take off).append k).append (h.drop _)
def repl {α : Type} (n : Nat) (z : List α) : List α := (List.replicate n z).flatten
theorem repl_length {α : Type} (n : Nat) (z : List α) : (repl n z).length = n * z.length := by simp [repl]
theorem denVs_repl {κ : Kx} {vs : List Value} {cs : List C} (h : denVs κ vs cs) : ∀ n, denVs κ (repl n vs) (repl n cs)
 | 0 => trivial
 | n + 1 => by
  have : ∀ {α : Type} (z : List α), repl (n + 1) z = z ++ repl n z := fun z => by simp [repl, List.replicate_succ]
  rw [this, this]
  exact h.append (denVs_repl h n)
theorem made_repl (z : Array Value) (n : Nat) : (madeCells z (n * z.size)).toList = repl n z.toList := by
 apply List.ext_getElem
 ·simp [madeCells, repl_length]
 intro i h1 h2
 have hi : i < n * z.size := by simpa [madeCells] using h1
 have hz : 0 < z.size := by
  rcases Nat.eq_zero_or_pos z.size with h | h
  ·rw [h] at hi; simp at hi
  exact h
 have key : ∀ (n : Nat) (l : List Value) (i : Nat) (hi : i < n * l.length), 0 < l.length → (repl n l)[i]? = l[i % l.length]? := by
  intro n l
  induction n with
  | zero => intro i hi; simp at hi
  | succ n ih =>
   intro i hi hl
   have e : repl (n + 1) l = l ++ repl n l := by simp [repl, List.replicate_succ]
   rw [e]
   rcases Nat.lt_or_ge i l.length with h | h
   ·rw [List.getElem?_append_left h, Nat.mod_eq_of_lt h]
   rw [List.getElem?_append_right h, ih (i - l.length) (by rw [Nat.succ_mul] at hi; omega) hl]
   congr 1
   rw [Nat.mod_eq_sub_mod h]
 have h3 := key n z.toList i (by simpa using hi) (by simpa using hz)
 rw [List.getElem?_eq_getElem h2] at h3
 have h4 : i % z.size < z.size := Nat.mod_lt _ hz
 have h5 : (repl n z.toList)[i] = z[i % z.size] := by
  have : z.toList[i % z.toList.length]? = some z[i % z.size] := by simp [h4]
  rw [this] at h3
  exact Option.some.inj h3
 rw [h5]
 simp only [madeCells, Array.getElem_toList, Array.getElem_map, Array.getElem_range]
 rw [getElem!_pos z _ h4]
section
variable {e : En} {H : Hp} {nx : Nat} {σ : Nat → Value} {w w' : World}
theorem RW.updV (h : RW e H nx σ w) {nm : Nat} {B : Blk} {cs : List C} {row : Option Nat} (hB : H nm = some B) (hg : w.grownBy w' row) (hrow : ∀ r, row = some r → obk (σ nm) = some r)
  (hnew : Ext (kx e H nx σ w) (kx e (up H nm (some { B with cs := cs })) nx σ w') → blkV (kx e (up H nm (some { B with cs := cs })) nx σ w') nm { B with cs := cs }) :
  RW e (up H nm (some { B with cs := cs })) nx σ w' ∧ Ext (kx e H nx σ w) (kx e (up H nm (some { B with cs := cs })) nx σ w') := by
 have old : ∀ nm' B', up H nm (some { B with cs := cs }) nm' = some B' → ∃ B0, H nm' = some B0 ∧ B0.st = B'.st ∧ B0.sz = B'.sz ∧ B0.n = B'.n ∧ B0.E = B'.E ∧ (nm' ≠ nm → B0 = B') := fun nm' B' hB' => by
  by_cases h0 : nm' = nm
  ·subst h0; rw [up_same] at hB'; cases hB'; exact ⟨B, hB, rfl, rfl, rfl, rfl, fun h => (h rfl).elim⟩
  rw [up_ne _ _ h0] at hB'; exact ⟨B', hB', rfl, rfl, rfl, rfl, fun _ => rfl⟩
 have hext : Ext (kx e H nx σ w) (kx e (up H nm (some { B with cs := cs })) nx σ w') := by
  refine ⟨Nat.le_refl _, fun k hk => ⟨⟨hk.1, ?_, fun nm' B' hB' => ?_⟩, ?_⟩, fun nm' B' hB' => ?_⟩
  ·exact Nat.lt_of_lt_of_le hk.2.1 hg.size
  ·obtain ⟨B0, h1, _⟩ := old nm' B' hB'
   exact hk.2.2 nm' B0 h1
  ·exact hg.block k hk.2.1 (fun e1 => hk.2.2 nm B hB (hrow k e1.symm))
  obtain ⟨B0, h1, h2, h3, h4, _⟩ := old nm' B' hB'
  exact .inr ⟨B0, h1, h2, h3, h4, rfl⟩
 refine ⟨⟨h.bel.grown hg h.size (fun k hk => (h.lt hB (hrow k hk)).1), h.hT, fun nm' B' hB' => ?_, fun n1 n2 B1 B2 hB1 hB2 => ?_⟩, hext⟩
 ·obtain ⟨B0, g1, g2, g3, g4, g5, g6⟩ := old nm' B' hB'
  by_cases h0 : nm' = nm
  ·subst h0
   rw [up_same] at hB'
   cases hB'
   exact ⟨by have := (h.blk nm' B0 g1).1; rw [g2] at this; exact this, hnew hext⟩
  obtain rfl := g6 h0
  refine ⟨(h.blk nm' B0 g1).1, (h.blk nm' B0 g1).2.kept hg ?_ rfl rfl hext⟩
  show obk (σ nm') = none ∨ obk (σ nm') ≠ row
  by_cases hn : obk (σ nm') = none
  ·exact .inl hn
  obtain ⟨b, hb⟩ := Option.ne_none_iff_exists'.1 hn
  refine .inr fun e1 => ?_
  rw [hb] at e1
  exact h.inj nm' nm B0 B g1 hB h0 b hb (hrow b e1.symm)
 obtain ⟨D1, g1, _⟩ := old n1 B1 hB1
 obtain ⟨D2, g2, _⟩ := old n2 B2 hB2
 exact h.inj n1 n2 D1 D2 g1 g2
theorem RW.upd (h : RW e H nx σ w) {nm : Nat} {B : Blk} (hB : H nm = some B) (hg : w.grownBy w' (σ nm).ownBlock) {xs : List Value} {cs : List C} (hsz : B.sz ≠ 0) (hlen : cs.length = B.n * B.sz)
  (ho : w'.ownsRow e.w0.heap.size B.E B.sz (σ nm) B.n xs) (hd : denVs (kx e H nx σ w) xs cs) :
  RW e (up H nm (some { B with cs := cs })) nx σ w' ∧ Ext (kx e H nx σ w) (kx e (up H nm (some { B with cs := cs })) nx σ w') :=
 h.updV hB hg (fun r hr => obk_of_own hr) fun hext => .inl ⟨hsz, hlen, xs, ho, denVs_ext hext hd⟩
theorem grownBy_alloc (w : World) (o : Obj) : w.grownBy (w.alloc o) none := World.grownBy_alloc w o none
theorem grownBy_setRow (w : World) (g : Nat) (cs : Array Value) : w.grownBy (w.setRow g cs) (some g) :=
 ⟨rfl, rfl, rfl, by simp, fun k _ hk => setRow_other w g k cs (fun e => hk (by rw [e]))⟩
theorem RW.row (h : RW e H nx σ w) (d : Nat) (E : TypeId) (sz n : Nat) (hsz : sz ≠ 0) {us : List Value} {cs : List C} (hd : denVs (kx e H nx σ w) us cs) (hlen : cs.length = n * sz) (hn : n ≤ maxLen) :
  RW e (up H d (some ⟨nx, E, sz, n, cs⟩)) (nx + 1) (up σ d (.slice (some ⟨w.heap.size, 0, none⟩) n n)) (w.alloc (.cells us.toArray E)) ∧
  Ext (kx e H nx σ w) (kx e (up H d (some ⟨nx, E, sz, n, cs⟩)) (nx + 1) (up σ d (.slice (some ⟨w.heap.size, 0, none⟩) n n)) (w.alloc (.cells us.toArray E))) := by
 have := RW.new (d := d) (nm0 := d) (row := none) h (grownBy_alloc w (.cells us.toArray E)) (B' := ⟨nx, E, sz, n, cs⟩) (v' := .slice (some ⟨w.heap.size, 0, none⟩) n n) (xs := us) rfl hsz hlen (by simp)
  (fun r hr => .inl (by simp [obk] at hr; omega)) ⟨by rw [hd.length]; exact hlen, .inr ⟨w.heap.size, n, us.toArray, rfl, h.size, heap_alloc_new _ _, Nat.le_refl _, hn, by simp [hd.length, hlen], by
   rw [List.take_of_length_le (by simp [hd.length, hlen])]⟩⟩ hd
 rwa [up_up] at this
end
def cellsOf : AV → Option (List C)
 | .val a => some a.cells
 | _ => none
def zrT (P : Program) (t : TypeId) : Option (List Value) :=
 match (P.info? t).map (·.zero) with
 | some (some v) => if v.cells.toList.all Value.oneCell' then some v.cells.toList else none
 | _ => none
def plT (P : Program) (t : TypeId) : Option (List (Nat × Nat)) :=
 match P.underlying t with
 | some (.struct fs) => fs.toList.mapM fun f => (P.info? f.type).map fun i => (f.offset, i.size)
 | _ => none
def fillC (place : Nat → Option (Nat × Nat)) : List C → List (Nat × AV) → Option (Prop × List C)
 | cs, [] => some (True, cs)
 | cs, (i, x) :: rest => match place i, cellsOf x with
  | some (off, size), some ds => match fillC place (spl cs off ds) rest with
   | some (p, r) => some ((ds.length = size ∧ off + size ≤ cs.length) ∧ p, r)
   | none => none
  | _, _ => none
def srcA (st : St) (x : AV) : Option (Prop × Nat × Nat × List C) :=
 match x with
 | .val (.one (.own nm s' n sz)) => match st.H nm with
  | some B => some (B.st = s' ∧ sz ≠ 0, sz, n, B.cs)
  | none => none
 | .val (.one (.sh sz n cs)) => some (True, sz, n, cs)
 | _ => none
def stillBuild (P : Program) (st : St) (t : TypeId) (parts : Array (Nat × Operand)) : Option (Prop × AV) :=
 match zrT P t, plT P t with
 | some zs, some ps => match fillC (fun i => ps[i]?) (zs.map .lit) (parts.toList.map fun q => (q.1, ev st q.2)) with
  | some (p, r) => some (p, .val (.agg r))
  | none => none
 | _, _ => none
def eff (P : Program) (st : St) (d : Nat) : Op → Option (Prop × St)
  | .alloc t => match zrT P t with
    | some zs => some (zs.length ≠ 0, ⟨up st.tm d (.val (.one (.ptr (st.nb + d) st.nx 0))), up st.H (st.nb + d) (some ⟨st.nx, t, zs.length, 1, zs.map .lit⟩), st.nx + 1, st.nb⟩)
    | none => none
  | .box t x => match cellsOf (ev st x) with
    | some cs => some (cs.length ≠ 0, ⟨up st.tm d (.val (.one (.ptr (st.nb + d) st.nx 0))), up st.H (st.nb + d) (some ⟨st.nx, t, cs.length, 1, cs⟩), st.nx + 1, st.nb⟩)
    | none => none
  | .buildSlice t len parts => match elT P t with
    | some (E, sz, _) => match zrT P E with
      | some zs => match fillC (fun i => some (i * sz, sz)) (repl len (zs.map .lit)) (parts.toList.map fun q => (q.1, ev st q.2)) with
        | some (p, r) => some (p ∧ zs.length = sz ∧ 0 < len * sz ∧ len * sz ≤ 16777216 ∧ r.length = len * sz, ⟨up st.tm d (.val (.one (.own (st.nb + d) st.nx len sz))), up st.H (st.nb + d) (some ⟨st.nx, E, sz, len, r⟩), st.nx + 1, st.nb⟩)
        | none => none
      | none => none
    | none => none
  | .makeSlice t l c => match ev st l, ev st c, elT P t with
    | .val (.one (.lit (.int _ n))), .val (.one (.lit (.int _ n'))), some (E, sz, by_) => match zrT P E with
      | some zs => some (n = n' ∧ sz ≠ 0 ∧ zs.length = sz ∧ 0 ≤ n ∧ (by_ : Int) * n ≤ 281474976710656 ∧ n ≤ 4611686018427387904, ⟨up st.tm d (.val (.one (.own (st.nb + d) st.nx n.toNat sz))), up st.H (st.nb + d) (some ⟨st.nx, E, sz, n.toNat, repl n.toNat (zs.map .lit)⟩), st.nx + 1, st.nb⟩)
      | none => none
    | _, _, _ => none
  | .store t x y => match ev st x, cellsOf (ev st y), ldT P t with
    | .val (.one (.ptr nm s' off)), some ds, some (_, sz) => match st.H nm with
      | some B => some (B.st = s' ∧ ds.length = sz ∧ off + sz ≤ B.cs.length, ⟨st.tm, up st.H nm (some { B with cs := spl B.cs off ds }), st.nx, st.nb⟩)
      | none => none
    | _, _, _ => none
  | .call { callee := .builtin .append, args, argTypes } => match args.toList, argTypes.toList with
    | [s, x], [t, t'] => match elT P t, srcA st (ev st x) with
      | some (E, sz, by_), some (q, sz', m, ns) => match ev st s with
        | .val (.one (.own nm s' n sz'')) => match st.H nm with
          | some B => some (q ∧ t = t' ∧ B.st = s' ∧ sz'' = sz ∧ sz' = sz ∧ B.E = E ∧ (zrT P E).map List.length = some sz ∧ 0 < sz ∧ ((n + m) * by_ ≤ 140737488355328 ∧ n + m ≤ 4611686018427387904),
              ⟨up st.tm d (.val (.one (.own (st.nb + d) st.nx (n + m) sz))), up (up st.H nm none) (st.nb + d) (some ⟨st.nx, E, sz, n + m, B.cs ++ ns⟩), st.nx + 1, st.nb⟩)
          | none => none
        | .val (.one (.lit (.slice none 0 0))) => some (q ∧ t = t' ∧ sz' = sz ∧ (zrT P E).map List.length = some sz ∧ 0 < sz ∧ (m * by_ ≤ 140737488355328 ∧ m ≤ 4611686018427387904),
              ⟨up st.tm d (.val (.one (.own (st.nb + d) st.nx m sz))), up st.H (st.nb + d) (some ⟨st.nx, E, sz, m, ns⟩), st.nx + 1, st.nb⟩)
        | _ => none
      | _, _ => none
    | _, _ => none
  | _ => none
theorem foldl_set (off : Nat) : ∀ (l : List Value) (k : Nat) (arr : Array Value), off + k + l.length ≤ arr.size →
  ((l.zipIdx k).foldl (fun cs (x : Value × Nat) => cs.setIfInBounds (off + x.2) x.1) arr).toList = arr.toList.take (off + k) ++ l ++ arr.toList.drop (off + k + l.length)
 | [], k, arr, _ => by simp
 | v :: l, k, arr, h => by
  simp only [List.length_cons] at h
  rw [List.zipIdx_cons, List.foldl_cons, foldl_set off l (k + 1) (arr.setIfInBounds (off + k) v) (by simp; omega)]
  simp only [Array.toList_setIfInBounds, List.length_cons]
  apply List.ext_getElem?
  intro i
  have hl : off + k < arr.toList.length := by simp; omega
  rcases Nat.lt_trichotomy i (off + k) with h1 | h1 | h1
  ·rw [List.append_assoc, List.append_assoc, List.getElem?_append_left (by simp; omega), List.getElem?_append_left (by simp; omega), List.getElem?_take, List.getElem?_take, if_pos (by omega), if_pos (by omega), List.getElem?_set_ne (by omega)]
  ·subst h1
   rw [List.append_assoc, List.append_assoc, List.getElem?_append_left (by simp; omega), List.getElem?_take, if_pos (by omega), List.getElem?_set_self hl, List.getElem?_append_right (by simp; omega)]
   simp [show min (off + k) arr.size = off + k by omega]
  have e1 : (List.take (off + (k + 1)) (arr.toList.set (off + k) v)).length = off + k + 1 := by simp; omega
  have e2 : (List.take (off + k) arr.toList).length = off + k := by simp; omega
  rw [List.append_assoc, List.append_assoc, List.getElem?_append_right (l₁ := List.take (off + (k + 1)) (arr.toList.set (off + k) v)) (by omega), List.getElem?_append_right (l₁ := List.take (off + k) arr.toList) (by omega), e1, e2]
  rw [show i - (off + k) = (i - (off + k + 1)) + 1 by omega, List.cons_append, List.getElem?_cons_succ]
  rcases Nat.lt_or_ge (i - (off + k + 1)) l.length with h2 | h2
  ·rw [List.getElem?_append_left h2, List.getElem?_append_left h2]
  rw [List.getElem?_append_right h2, List.getElem?_append_right h2, List.getElem?_drop, List.getElem?_drop, List.getElem?_set_ne (by omega)]
  congr 1; omega
theorem set_cells (off : Nat) (v arr : Array Value) (h : off + v.size ≤ arr.size) :
  (v.zipIdx.foldl (fun cs (x : Value × Nat) => cs.setIfInBounds (off + x.2) x.1) arr).toList = spl arr.toList off v.toList := by
 rw [← Array.foldl_toList, Array.toList_zipIdx]
 have := foldl_set off v.toList 0 arr (by simpa using h)
 simpa [spl] using this
theorem denA_cells {κ : Kx} {v : Value} {x : AV} {ds : List C} (h : denA κ v x) (hx : cellsOf x = some ds) : denVs κ v.cells.toList ds := by
 cases x <;> simp [cellsOf] at hx
 subst hx
 exact den1_cells h
theorem fill_ok {κ : Kx} {place : Nat → Option (Nat × Nat)} : ∀ (parts : List (Nat × AV)) (vs : List (Nat × Value)) (cs : List C) (arr : Array Value) {p : Prop} {r : List C},
  vs.map (·.1) = parts.map (·.1) → (∀ i (h : i < vs.length) (h' : i < parts.length), denA κ vs[i].2 parts[i].2) → denVs κ arr.toList cs → fillC place cs parts = some (p, r) → p → ∃ arr', Instr.fill place arr vs = some arr' ∧ denVs κ arr'.toList r
 | [], [], cs, arr, p, r, _, _, hd, h, hp => by
  simp only [fillC, Option.some.injEq, Prod.mk.injEq] at h
  obtain ⟨rfl, rfl⟩ := h
  exact ⟨arr, rfl, hd⟩
 | [], _ :: _, _, _, _, _, h, _, _, _, _ => by simp at h
 | _ :: _, [], _, _, _, _, h, _, _, _, _ => by simp at h
 | (i, x) :: parts, (i', v) :: vs, cs, arr, p, r, hi, hv, hd, h, hp => by
  simp only [List.map_cons, List.cons.injEq] at hi
  obtain ⟨rfl, hi⟩ := hi
  simp only [fillC] at h
  split at h <;> try (cases h; done)
  rename_i off size ds hpl hc
  split at h <;> try (cases h; done)
  rename_i q r' hf
  simp only [Option.some.injEq, Prod.mk.injEq] at h
  obtain ⟨rfl, rfl⟩ := h
  obtain ⟨⟨h1, h2⟩, h3⟩ := hp
  have hv0 : denA κ v x := hv 0 (by simp) (by simp)
  have hdc := denA_cells hv0 hc
  have hsz : v.cells.size = size := by have := hdc.length; simpa [h1] using this
  have hal : arr.size = cs.length := by simpa using hd.length
  have hle : off + v.cells.size ≤ arr.size := by omega
  obtain ⟨arr', g1, g2⟩ := fill_ok parts vs (spl cs off ds) (v.cells.zipIdx.foldl (fun cs (x : Value × Nat) => cs.setIfInBounds (off + x.2) x.1) arr) hi (fun j hj hj' => hv (j + 1) (by simpa using hj) (by simpa using hj')) (by rw [set_cells _ _ _ hle]; exact denVs_spl hd hdc off) hf h3
  refine ⟨arr', ?_, g2⟩
  simp only [Instr.fill, hpl]
  rw [if_neg (by simp [hsz]; omega)]
  exact g1
section
variable {P : Program} {e : En} {N : Nat} {st : St} {a : Act} {w : World} {σ : Nat → Value} {o : Oper} {p : Prop} {x : AV}
theorem zrT_run {t : TypeId} {zs : List Value} (h : zrT P t = some zs) : ∃ z, z.cells.toList = zs ∧ zs.all Value.oneCell' = true ∧ ∀ w, (zeroValue t).run P w = .ok z w := by
 unfold zrT at h
 split at h <;> try (cases h; done)
 rename_i v hv
 split at h <;> try (cases h; done)
 rename_i h1
 obtain rfl := Option.some.inj h
 refine ⟨v, rfl, h1, fun w => ?_⟩
 cases hi : P.info? t with
 | none => rw [hi] at hv; cases hv
 | some i =>
  rw [hi] at hv
  have hz : i.zero = some v := by simpa using hv
  simp [zeroValue, typeInfo, hi, hz]
theorem parts_den (ht : ∀ t, denA (kx e st.H st.nx σ w) (a.tmps.getD t undef) (st.tm t)) (l : List (Nat × Operand)) :
  (l.map fun q => (q.1, a.eval q.2)).map (·.1) = (l.map fun q => (q.1, ev st q.2)).map (·.1) ∧
  ∀ i (h : i < (l.map fun q => (q.1, a.eval q.2)).length) (h' : i < (l.map fun q => (q.1, ev st q.2)).length), denA (kx e st.H st.nx σ w) (l.map fun q => (q.1, a.eval q.2))[i].2 (l.map fun q => (q.1, ev st q.2))[i].2 := by
 refine ⟨by simp [List.map_map, Function.comp_def], fun i h h' => ?_⟩
 simp only [List.getElem_map]
 exact ev_den ht _
theorem places_run {fs : List Field} {ps : List (Nat × Nat)} (h : (fs.mapM fun f => (P.info? f.type).map fun i => (f.offset, i.size)) = some ps) (w : World) :
  (fs.mapM fun f => do pure (f.offset, ← sizeOf f.type) : Sem (List (Nat × Nat))).run P w = .ok ps w := by
 induction fs generalizing ps with
 | nil => simp at h; subst h; rfl
 | cons f fs ih =>
  simp only [List.mapM_cons, Option.bind_eq_bind, Option.bind_eq_some_iff, Option.pure_def, Option.some.injEq] at h
  obtain ⟨q, h1, qs, h2, rfl⟩ := h
  rw [Option.map_eq_some_iff] at h1
  obtain ⟨i, h3, rfl⟩ := h1
  simp [List.mapM_cons, sizeOf, typeInfo, h3]
  have := ih h2
  simp [sizeOf, typeInfo] at this
  rw [this]; rfl
theorem stillBuild_ok {t : TypeId} {parts : Array (Nat × Operand)} (ht : ∀ t, denA (kx e st.H st.nx σ w) (a.tmps.getD t undef) (st.tm t)) (hop : o.op = .build t parts) (h : stillBuild P st t parts = some (p, x)) (hp : p) : Yl P o a w (kx e st.H st.nx σ w) x := by
 unfold stillBuild at h
 split at h <;> try (cases h; done)
 rename_i zs ps hz hpl
 split at h <;> try (cases h; done)
 rename_i q r hf
 simp only [Option.some.injEq, Prod.mk.injEq] at h
 obtain ⟨rfl, rfl⟩ := h
 obtain ⟨z, h1, h2, h3⟩ := zrT_run hz
 obtain ⟨k1, k2⟩ := parts_den ht parts.toList
 have hd0 : denVs (kx e st.H st.nx σ w) z.cells.toList (zs.map .lit) := by rw [h1]; exact denVs_lits _ _ h2
 obtain ⟨arr', g1, g2⟩ := fill_ok (place := fun i => ps[i]?) _ _ _ z.cells k1 k2 hd0 hf hp
 unfold plT at hpl
 split at hpl <;> try (cases hpl; done)
 rename_i fs hu
 refine ⟨.agg arr', fun w' _ => ?_, ⟨arr'.toList, by simp, g2⟩⟩
 have hpr := places_run hpl w'
 have hpr2 : (fs.mapM fun f => do pure (f.offset, ← sizeOf f.type) : Sem (Array (Nat × Nat))).run P w' = .ok ps.toArray w' := by
  rw [Array.mapM_eq_mapM_toList]
  simp only [Sem.run_map, hpr, Result.andThen_ok]
 have g1' : Instr.fill (fun i => ps.toArray[i]?) z.cells ((parts.map fun q => (q.1, a.eval q.2)).toList) = some arr' := by
  simpa using g1
 simp only [execOp, hop, Sem.run_bind, Instr.build, h3 w', Result.andThen_ok, run_underlying hu, hpr2, g1', Sem.run_pure]
end
section
variable {P : Program} {e : En} {k0 : Kx} {N : Nat} {st st' : St} {a : Act} {w : World} {σ : Nat → Value} {o : Oper} {p : Prop} {x : AV} {d : Nat} {K : Act → World → Prop} {Q : Exit → Act → World → Prop}
theorem wp_value {v : Value} {w' : World} (h : (execOp a.eval o).run P w = .ok (.value v) w') (hK : K (a.put o.dst v) w') : o.wp P a w K Q := by
 unfold Oper.wp; rw [h]; exact hK
theorem wp_skip' {w' : World} (h : (execOp a.eval o).run P w = .ok .skip w') (hK : K (a.put o.dst undef) w') : o.wp P a w K Q := by
 unfold Oper.wp; rw [h]; exact hK
theorem den_new_ptr {H : Hp} {nx : Nat} {E : TypeId} {sz n : Nat} {cs : List C} (d b m : Nat) (σ : Nat → Value) (w : World) :
  denA (kx e (up H d (some ⟨nx, E, sz, n, cs⟩)) (nx + 1) (up σ d (.slice (some ⟨b, 0, none⟩) n m)) w) (.pointer (some ⟨b, 0, none⟩)) (.val (.one (.ptr d nx 0))) := by
 simp only [denA, den1, den]
 refine ⟨rfl, Nat.lt_succ_self _, fun B _ _ => ⟨b, ?_, rfl⟩⟩
 show (up σ d _ d).ownBlock = some b
 rw [up_same]; rfl
theorem den_new_own {H : Hp} {nx : Nat} {E : TypeId} {sz n : Nat} {cs : List C} (d : Nat) {v : Value} (σ : Nat → Value) (w : World) (hv : v.oneCell' = true) :
  denA (kx e (up H d (some ⟨nx, E, sz, n, cs⟩)) (nx + 1) (up σ d v) w) v (.val (.one (.own d nx n sz))) := by
 simp only [denA, den1, den]
 refine ⟨hv, Nat.lt_succ_self _, fun B hB _ => ?_⟩
 have hB' : up H d (some ⟨nx, E, sz, n, cs⟩) d = some B := hB
 rw [up_same] at hB'
 cases hB'
 refine ⟨?_, rfl, rfl⟩
 show v = up σ d v d
 rw [up_same]
theorem wp_row (hr : Rel e k0 N st a w) (hdst : o.dst = some d) (hdN : d < N) {E : TypeId} {sz n : Nat} {us : List Value} {cs : List C} {v : Value} {x : AV}
  (hrun : (execOp a.eval o).run P w = .ok (.value v) (w.alloc (.cells us.toArray E)))
  (hd : ∀ σ, RW e st.H st.nx σ w → (∀ t, denA (kx e st.H st.nx σ w) (a.tmps.getD t undef) (st.tm t)) → denVs (kx e st.H st.nx σ w) us cs) (hsz : sz ≠ 0) (hlen : cs.length = n * sz) (hn : n ≤ maxLen)
  (hx : ∀ σ w', denA (kx e (up st.H (st.nb + d) (some ⟨st.nx, E, sz, n, cs⟩)) (st.nx + 1) (up σ (st.nb + d) (.slice (some ⟨w.heap.size, 0, none⟩) n n)) w') v x)
  (hK : ∀ a' w', Rel e k0 N ⟨up st.tm d x, up st.H (st.nb + d) (some ⟨st.nx, E, sz, n, cs⟩), st.nx + 1, st.nb⟩ a' w' → FL w w' → K a' w') : o.wp P a w K Q := by
 obtain ⟨σ, h1, h2, h3⟩ := hr.ex
 obtain ⟨k1, k2⟩ := h1.row (st.nb + d) E sz n hsz (hd σ h1 h2) hlen hn
 refine wp_value hrun ?_
 rw [hdst]
 exact hK _ _ (hr.put k1 h2 h3 k2 (hx σ _) d hdN) (FL.alloc _ _)
theorem zr_some {E : TypeId} {sz : Nat} (h : (zrT P E).map List.length = some sz) : (zrT P E).isSome = true := by
 cases hz : zrT P E with
 | none => rw [hz] at h; cases h
 | some z => rfl
theorem zr_len {E : TypeId} {sz : Nat} (h : (zrT P E).map List.length = some sz) (zs : List Value) (hz : zrT P E = some zs) : zs.length = sz := by
 rw [hz] at h; simpa using h
theorem append_run {base : Nat} {t ty E : TypeId} {sz by_ : Nat} (hel : elT P t = some (E, sz, by_)) (hz : (zrT P E).isSome = true) (hzs : ∀ zs, zrT P E = some zs → zs.length = sz) (hsz : 0 < sz) {v : Value} {n : Nat} {xs : List Value} (ho : w.ownsRow base E sz v n xs)
  {ad : Option Addr} {m c : Nat} {news : List Value} (hl : news.length = m * sz) (hs : m = 0 ∨ ∃ b off, ad = some ⟨b, off, none⟩ ∧ ∀ j u, news[j]? = some u → w.cell? ⟨b, off + j, none⟩ = some u)
  (h1 : ∀ u ∈ news, u.oneCell' = true) (h63 : n + m ≤ maxLen) (hb : (n + m) * by_ ≤ 140737488355328) (hbase : base ≤ w.heap.size) :
  ∃ v' w', (Builtin.append_ #[t, t] ty #[v, .slice ad m c]).run P w = .ok v' w' ∧ v'.oneCell' = true ∧ w'.ownsRow base E sz v' (n + m) (xs ++ news) ∧ w.grownBy w' v.ownBlock ∧ (v'.ownBlock = v.ownBlock ∨ v'.ownBlock = some w.heap.size) := by
 obtain ⟨g1, i, g2, g3, g4⟩ := elT_run hel
 obtain ⟨zs, hzz⟩ := Option.isSome_iff_exists.1 hz
 have hlen := hzs zs hzz
 unfold zrT at hzz
 split at hzz <;> try (cases hzz; done)
 rename_i z hzi
 split at hzz <;> try (cases hzz; done)
 obtain rfl := Option.some.inj hzz
 rw [g2] at hzi
 have hzi' : i.zero = some z := by simpa using hzi
 rcases Nat.eq_zero_or_pos m with hm | hm
 ·subst hm
  have hnil : news = [] := List.eq_nil_of_length_eq_zero (by simpa using hl)
  subst hnil
  have fc : (Builtin.firstCells sz 0 (.slice ad 0 c)).run P w = .ok #[] w := by
   cases ad with
   | none => simp [Builtin.firstCells]
   | some q => simp [Builtin.firstCells, loadCells, loadCellsFrom]
  refine ⟨v, w, ?_, ?_, by simpa using ho, ⟨rfl, rfl, rfl, Nat.le_refl _, fun _ _ _ => rfl⟩, .inl rfl⟩
  ·rcases ho.2 with ⟨rfl, rfl⟩ | ⟨g, cap, cur, rfl, _, hg, hc, _⟩
   ·simp [Builtin.append_, run_underlying g1, sizeOf, typeInfo, g2, g3, Builtin.lenOf, fc]
   have hc' : n ≤ cap := hc
   simp [Builtin.append_, run_underlying g1, sizeOf, typeInfo, g2, g3, Builtin.lenOf, fc, hc', storeCells]
  rcases ho.2 with ⟨rfl, _⟩ | ⟨g, cap, cur, rfl, _⟩ <;> rfl
 obtain ⟨b, off, rfl, hcell⟩ := hs.resolve_left (by omega)
 obtain ⟨v', w', r1, r2, r3, r4⟩ := append_block (P := P) w base t ty E i z sz by_ g1 g2 hzi' g3 g4 (by simpa using hlen) hsz v n xs ho ⟨b, off, none⟩ m c news hl (fun j u hu => by rw [add_lit]; exact hcell j u hu) h1 h63 hb hbase hm
 refine ⟨v', w', r1, ?_, r2, r3, r4⟩
 rcases r2.2 with ⟨rfl, _⟩ | ⟨g, cap, cur, rfl, _⟩ <;> rfl
theorem srcA_ok {κ : Kx} (hW : RW e st.H st.nx σ w) {v : Value} {y : AV} (hy : denA (kx e st.H st.nx σ w) v y) {q : Prop} {sz m : Nat} {ns : List C} (h : srcA st y = some (q, sz, m, ns)) (hq : q) :
  ∃ ad c news, v = .slice ad m c ∧ denVs (kx e st.H st.nx σ w) news ns ∧ ns.length = m * sz ∧ m ≤ maxLen ∧ (m = 0 ∨ ∃ b off, ad = some ⟨b, off, none⟩ ∧ ∀ j u, news[j]? = some u → w.cell? ⟨b, off + j, none⟩ = some u) := by
 unfold srcA at h
 split at h <;> try (cases h; done)
 ·rename_i nm s' n sz'
  split at h <;> try (cases h; done)
  rename_i B hB
  simp only [Option.some.injEq, Prod.mk.injEq] at h
  obtain ⟨rfl, rfl, rfl, rfl⟩ := h
  simp only [denA, den1, den] at hy
  obtain ⟨hq, hsz⟩ := hq
  obtain ⟨h1, h2, h3⟩ := hy.2.2 B hB hq
  obtain ⟨_, h4, xs, h5, h6⟩ := hW.rowOf hB (.inl (by rw [h3]; exact hsz))
  have h1' : v = σ nm := h1
  subst h2; subst h3
  rcases h5.2 with ⟨h7, h8⟩ | ⟨g, cap, cur, h7, h8, h9, h10, h11, h12, h13⟩
  ·exact ⟨none, 0, xs, by rw [h1', h8]; exact h7, h6, h4, by rw [h8]; exact Nat.zero_le _, .inl h8⟩
  refine ⟨some ⟨g, 0, none⟩, cap, xs, by rw [h1']; exact h7, h6, h4, Nat.le_trans h10 h11, .inr ⟨g, 0, rfl, fun j u hu => ?_⟩⟩
  have := h5.cells (g := g) (by rw [h7]; rfl) j u hu
  rwa [add_lit] at this
 rename_i sz' n cs
 simp only [Option.some.injEq, Prod.mk.injEq] at h
 obtain ⟨rfl, rfl, rfl, rfl⟩ := h
 simp only [denA, den1, den] at hy
 obtain ⟨ad, cap, h1, h2, h3, h4, h5, h6⟩ := hy
 rcases h6 with h6 | ⟨b, off, rfl, h7, h8⟩
 ·subst h6
  have hcs : cs = [] := List.eq_nil_of_length_eq_zero (by simpa using h5)
  subst hcs
  exact ⟨ad, cap, [], h1, trivial, h5, by omega, .inl rfl⟩
 obtain ⟨us, h9, h10⟩ := h8.vals
 exact ⟨some ⟨b, off, none⟩, cap, us, h1, h9, h5, by omega, .inr ⟨b, off, rfl, h10⟩⟩
theorem wp_append {c : Call} {s y : Operand} {t t' : TypeId} (hr : Rel e k0 N st a w) (hdst : o.dst = some d) (hdN : d < N) (hop : o.op = .call c) (hcal : c.callee = .builtin .append) (hargs : c.args = #[s, y]) (htys : c.argTypes = #[t, t'])
  (h : eff P st d o.op = some (p, st')) (hp : p) (hK : ∀ a' w', Rel e k0 N st' a' w' → K a' w') : o.wp P a w K Q := by
 obtain ⟨callee, args, argTypes⟩ := c
 simp only at hcal hargs htys
 subst hcal hargs htys
 obtain ⟨σ, h1, h2, h3⟩ := hr.ex
 rw [hop] at h
 simp only [eff] at h
 split at h <;> try (cases h; done)
 rename_i E sz by_ q sz' m ns hel hsrc
 have hs := ev_den h2 s
 have hy := ev_den h2 y
 have hml : maxLen = 4611686018427387904 ∨ 4611686018427387904 ≤ maxLen := by unfold maxLen; omega
 split at h <;> try (cases h; done)
 ·rename_i nm s' n sz'' hes
  rw [hes] at hs
  split at h <;> try (cases h; done)
  rename_i B hB
  simp only [Option.some.injEq, Prod.mk.injEq] at h
  obtain ⟨rfl, rfl⟩ := h
  obtain ⟨hq, rfl, hst, rfl, rfl, rfl, hz, hsz, hb, hl⟩ := hp
  obtain ⟨ad, c, news, e1, e2, e3, e4, e5⟩ := srcA_ok (κ := kx e st.H st.nx σ w) h1 hy hsrc hq
  simp only [denA, den1, den] at hs
  obtain ⟨f1, f2, f3⟩ := hs.2.2 B hB hst
  have f1' : a.eval s = σ nm := f1
  obtain ⟨g1, g2, xs, g3, g4⟩ := h1.rowOf hB (.inl (by omega))
  have g3' : w.ownsRow e.w0.heap.size B.E sz' (σ nm) n xs := by rw [← f2, ← f3]; exact g3
  obtain ⟨v', w', r1, r2, r3, r4, r5⟩ := append_run (ty := o.type) hel (zr_some hz) (zr_len hz) hsz g3' (by rw [e2.length]; exact e3) e5 e2.one (by omega) hb h1.size
  obtain ⟨k1, k2⟩ := RW.new (nm0 := nm) (d := st.nb + d) h1 r4 (B' := ⟨st.nx, B.E, sz', n + m, B.cs ++ ns⟩) rfl (by show sz' ≠ 0; omega) (by simp only [List.length_append]; rw [g2, e3, f2, f3, Nat.add_mul]) (fun r hr => ⟨obk_of_own hr, B, hB⟩) (fun r hr => by
   rw [obk_row r3] at hr
   rcases r5 with h5 | h5
   ·exact .inr ⟨obk_of_own (h5 ▸ hr), B, hB⟩
   rw [h5] at hr; cases hr; exact .inl (Nat.le_refl _)) r3 (g4.append e2)
  refine wp_value (v := v') (w' := w') ?_ ?_
  ·have r1' := r1
   simp only [execOp, hop, resolve, Sem.run_bind, Sem.run_pure, Result.andThen_ok, invoke, builtin, List.map_toArray, List.map_cons, List.map_nil, f1', e1]
   rw [r1']; rfl
  rw [hdst]
  refine hK _ _ (hr.put k1 h2 h3 k2 ?_ d hdN)
  exact den_new_own (st.nb + d) σ w' r2
 rename_i hes
 rw [hes] at hs
 simp only [Option.some.injEq, Prod.mk.injEq] at h
 obtain ⟨rfl, rfl⟩ := h
 obtain ⟨hq, rfl, rfl, hz, hsz, hb, hl⟩ := hp
 obtain ⟨ad, c, news, e1, e2, e3, e4, e5⟩ := srcA_ok (κ := kx e st.H st.nx σ w) h1 hy hsrc hq
 simp only [denA, den1, den] at hs
 obtain ⟨v', w', r1, r2, r3, r4, r5⟩ := append_run (ty := o.type) hel (zr_some hz) (zr_len hz) hsz (w.ownsRow_nil e.w0.heap.size E sz') (by rw [e2.length]; exact e3) e5 e2.one (by omega) (by simpa using hb) h1.size
 simp only [Nat.zero_add, List.nil_append] at r3
 obtain ⟨k1, k2⟩ := RW.new (nm0 := st.nb + d) (d := st.nb + d) h1 r4 (B' := ⟨st.nx, E, sz', m, ns⟩) rfl (by show sz' ≠ 0; omega) e3 (fun r hr => by simp [Value.ownBlock] at hr) (fun r hr => by
  rw [obk_row r3] at hr
  rcases r5 with h5 | h5
  ·rw [h5] at hr; simp [Value.ownBlock] at hr
  rw [h5] at hr; cases hr; exact .inl (Nat.le_refl _)) r3 e2
 rw [up_up] at k1 k2
 refine wp_value (v := v') (w' := w') ?_ ?_
 ·have r1' := r1
  simp only [execOp, hop, resolve, Sem.run_bind, Sem.run_pure, Result.andThen_ok, invoke, builtin, List.map_toArray, List.map_cons, List.map_nil, hs.1, e1]
  rw [r1']; rfl
 rw [hdst]
 refine hK _ _ (hr.put k1 h2 h3 k2 ?_ d hdN)
 exact den_new_own (st.nb + d) σ w' r2
theorem wp_eff (hr : Rel e k0 N st a w) (hdst : o.dst = some d) (hdN : d < N) (h : eff P st d o.op = some (p, st')) (hp : p) (hcall : ∀ c, o.op ≠ .call c) (hst : ∀ t x y, o.op ≠ .store t x y)
  (hK : ∀ a' w', Rel e k0 N st' a' w' → FL w w' → K a' w') : o.wp P a w K Q := by
 generalize hop : o.op = op at h
 cases op <;> simp only [eff, reduceCtorEq] at h
 case alloc t =>
  split at h <;> try (cases h; done)
  rename_i zs hz
  simp only [Option.some.injEq, Prod.mk.injEq] at h
  obtain ⟨rfl, rfl⟩ := h
  obtain ⟨z, h1, h2, h3⟩ := zrT_run hz
  refine wp_row (v := .pointer (some ⟨w.heap.size, 0, none⟩)) (us := zs) hr hdst hdN ?_ (fun σ _ _ => denVs_lits _ _ h2) hp (by simp) (by unfold maxLen; omega) (fun σ w' => den_new_ptr (st.nb + d) _ _ σ w') hK
  have h1' : z.cells = zs.toArray := by rw [← h1]
  simp [execOp, hop, Instr.alloc, h3 w, newVar, newRow, h1']
 case box t y =>
  split at h <;> try (cases h; done)
  rename_i cs hc
  simp only [Option.some.injEq, Prod.mk.injEq] at h
  obtain ⟨rfl, rfl⟩ := h
  refine wp_row (v := .pointer (some ⟨w.heap.size, 0, none⟩)) (us := (a.eval y).cells.toList) hr hdst hdN ?_ (fun σ _ h2 => denA_cells (ev_den h2 y) hc) hp (by simp) (by unfold maxLen; omega) (fun σ w' => den_new_ptr (st.nb + d) _ _ σ w') hK
  simp [execOp, hop, Instr.box, newVar, newRow]
 case buildSlice t len parts =>
  split at h <;> try (cases h; done)
  rename_i E sz by_ hel
  split at h <;> try (cases h; done)
  rename_i zs hz
  split at h <;> try (cases h; done)
  rename_i q r hf
  simp only [Option.some.injEq, Prod.mk.injEq] at h
  obtain ⟨rfl, rfl⟩ := h
  obtain ⟨hq, hzs, hpos, hbig, hlen⟩ := hp
  obtain ⟨z, h1, h2, h3⟩ := zrT_run hz
  obtain ⟨g1, i, g2, g3, g4⟩ := elT_run hel
  have hzsz : z.cells.size = sz := by rw [← hzs, ← h1]; simp
  obtain ⟨σ0, q1, q2, q3⟩ := hr.ex
  have hd0 : ∀ σ, denVs (kx e st.H st.nx σ w) (madeCells z.cells (len * sz)).toList (repl len (zs.map .lit)) := fun σ => by
   rw [← hzsz, made_repl, h1]
   exact denVs_repl (denVs_lits _ _ h2) len
  obtain ⟨arr', f1, _⟩ := fill_ok (κ := kx e st.H st.nx σ0 w) (place := fun i => some (i * sz, sz)) _ _ _ (madeCells z.cells (len * sz)) (parts_den q2 parts.toList).1 (parts_den q2 parts.toList).2 (hd0 σ0) hf hq
  refine wp_row (v := .slice (some ⟨w.heap.size, 0, none⟩) len len) (us := arr'.toList) hr hdst hdN ?_ (fun σ _ k2 => ?_) (by intro h0; rw [h0] at hpos; simp at hpos) hlen (by
   have : len ≤ len * sz := Nat.le_mul_of_pos_right _ (Nat.pos_of_mul_pos_left hpos)
   unfold maxLen; omega) (fun σ w' => ?_) hK
  ·have hne : ¬ len * sz = 0 := by omega
   have hbg : ¬ (16777216 < len * sz) := by omega
   have f1' : Instr.fill (fun i => some (i * sz, sz)) ((Array.range (len * sz)).map (z.cells[· % z.cells.size]!)) (parts.map fun q => (q.1, a.eval q.2)).toList = some arr' := by
    have := f1; simp only [madeCells] at this; simpa using this
   have hbg' : ¬ (len * sz > 2 ^ 24) := by simpa using hbg
   simp only [execOp, hop, Instr.buildSlice, Sem.run_bind, run_underlying g1, Result.andThen_ok, sizeOf, typeInfo, run_program, g2, g3, Sem.run_pure, Sem.run_ite, if_neg hbg', if_neg hne, h3 w, f1', newRow, run_newObj]
   simp
  ·obtain ⟨arr2, f2, f3⟩ := fill_ok (κ := kx e st.H st.nx σ w) (place := fun i => some (i * sz, sz)) _ _ _ (madeCells z.cells (len * sz)) (parts_den k2 parts.toList).1 (parts_den k2 parts.toList).2 (hd0 σ) hf hq
   rw [f1] at f2
   cases f2
   exact f3
  exact den_new_own (st.nb + d) σ w' rfl
 case makeSlice t l c =>
  split at h <;> try (cases h; done)
  rename_i k1 n k2 n' E sz by_ hl hc hel
  split at h <;> try (cases h; done)
  rename_i zs hz
  simp only [Option.some.injEq, Prod.mk.injEq] at h
  obtain ⟨rfl, rfl⟩ := h
  obtain ⟨rfl, hsz, hzs, h0, hb, hn⟩ := hp
  obtain ⟨z, h1, h2, h3⟩ := zrT_run hz
  obtain ⟨g1, i, g2, g3, g4⟩ := elT_run hel
  have hzsz : z.cells.size = sz := by rw [← hzs, ← h1]; simp
  have hzi : i.zero = some z := by
   have := h3 w
   cases hiz : i.zero with
   | none => simp [zeroValue, typeInfo, g2, hiz] at this
   | some z' => simp [zeroValue, typeInfo, g2, hiz] at this; rw [this]
  obtain ⟨σ0, q1, q2, q3⟩ := hr.ex
  have el := ev_den q2 l
  have ec := ev_den q2 c
  rw [hl] at el
  rw [hc] at ec
  simp only [denA, den1, den] at el ec
  have hrun := run_make (P := P) w t E i z g1 g2 hzi k1 k2 n n h0 (by omega) (by rw [g4]; exact hb) (by omega)
  refine wp_row (v := .slice (some ⟨w.heap.size, 0, none⟩) n.toNat n.toNat) (us := repl n.toNat zs) (cs := repl n.toNat (zs.map .lit)) hr hdst hdN ?_ (fun σ _ _ => denVs_repl (denVs_lits _ _ h2) _) hsz (by simp [repl_length, hzs]) (by unfold maxLen; omega) (fun σ w' => den_new_own (st.nb + d) σ w' rfl) hK
  have hm : madeCells z.cells (n.toNat * sz) = (repl n.toNat zs).toArray := by
   rw [← hzsz, ← h1, ← made_repl]
  simp only [execOp, hop, el.1, ec.1, hrun, Sem.run_bind, Result.andThen_ok, Sem.run_pure, g3, hm]
 case call c => exact (hcall c hop).elim
 case store t x y => exact (hst t x y hop).elim
theorem wp_store (hr : Rel e k0 N st a w) (hdst : o.dst = none) {t : TypeId} {y z : Operand} (hop : o.op = .store t y z) (h : eff P st d o.op = some (p, st')) (hp : p) (hK : ∀ a' w', Rel e k0 N st' a' w' → K a' w') : o.wp P a w K Q := by
  rw [hop] at h
  simp only [eff] at h
  obtain ⟨σ, h1, h2, h3⟩ := hr.ex
  have hy := ev_den h2 y
  have hz := ev_den h2 z
  split at h <;> try (cases h; done)
  rename_i nm s' off ds ag sz hey hc hl
  rw [hey] at hy
  split at h <;> try (cases h; done)
  rename_i B hB
  simp only [Option.some.injEq, Prod.mk.injEq] at h
  obtain ⟨rfl, rfl⟩ := h
  obtain ⟨hst, hds, hle⟩ := hp
  have hd := denA_cells hz hc
  obtain ⟨b, q1, q2, xs, q3, q4⟩ := own_ptr h1 hy hB hst
  obtain ⟨_, hBl, _⟩ := h1.rowOf hB (.inr (.inr ⟨b, q1⟩))
  have hvs : (a.eval z).cells.size = sz := by have := hd.length; rw [← hds]; simpa using this
  rcases q3.2 with ⟨g1, g2⟩ | ⟨g, cap, cur, g1, g2, g3, g4, g5, g6, g7⟩
  · rw [g1] at q1; cases q1
  have hgb : g = b := by rw [g1] at q1; simpa [Value.ownBlock] using q1
  subst hgb
  have hxl : xs.length = B.n * B.sz := q3.1
  have hcur : off + 0 + (a.eval z).cells.toList.length ≤ cur.size := by
    have : B.n * B.sz ≤ cap * B.sz := Nat.mul_le_mul_right _ g4
    simp only [Array.length_toList]; omega
  have hrun := run_storeCells_at (P := P) g off B.E (a.eval z).cells.toList 0 cur w g3 hcur hd.one
  obtain ⟨k1, k2⟩ := h1.upd (w' := w.setRow g (cur.toList.take (off + 0) ++ (a.eval z).cells.toList ++ cur.toList.drop (off + 0 + (a.eval z).cells.toList.length)).toArray) hB (by rw [q1]; exact grownBy_setRow w g _)
    (xs := spl xs off (a.eval z).cells.toList) (cs := spl B.cs off ds) (h1.szOf hB ⟨g, q1⟩) (by rw [spl_length _ _ _ (by omega)]; exact hBl) (by
      refine ⟨by rw [spl_length _ _ _ (by simp; omega)]; exact hxl, .inr ⟨g, cap, _, g1, g2, setRow_heap w g cur _ B.E (0, 0) g3, g4, g5, by simp; simp at hcur; omega, ?_⟩⟩
      have hlx : off + (a.eval z).cells.toList.length ≤ B.n * B.sz := by simp only [Array.length_toList]; omega
      rw [← g7]
      apply List.ext_getElem?
      intro j
      simp only [spl, Nat.add_zero, List.toList_toArray]
      rw [List.getElem?_take]
      split
      · rename_i hj
        simp only [List.append_assoc]
        rcases Nat.lt_or_ge j off with h5 | h5
        · rw [List.getElem?_append_left (by simp; omega), List.getElem?_append_left (by simp; omega), List.getElem?_take, List.getElem?_take, List.getElem?_take]
          simp [h5, hj]
        have e1 : (List.take off cur.toList).length = off := by simp; omega
        have e2 : (List.take off (List.take (B.n * B.sz) cur.toList)).length = off := by simp; omega
        rw [List.getElem?_append_right (l₁ := List.take off cur.toList) (by omega), List.getElem?_append_right (l₁ := List.take off (List.take (B.n * B.sz) cur.toList)) (by omega), e1, e2]
        rcases Nat.lt_or_ge (j - off) (a.eval z).cells.toList.length with h6 | h6
        · rw [List.getElem?_append_left h6, List.getElem?_append_left h6]
        rw [List.getElem?_append_right h6, List.getElem?_append_right h6, List.getElem?_drop, List.getElem?_drop, List.getElem?_take, if_pos (by omega)]
      rename_i hj
      rw [List.getElem?_eq_none]
      have := spl_length (List.take (B.n * B.sz) cur.toList) off (a.eval z).cells.toList (by simp; simp at hcur hlx; omega)
      simp only [spl] at this
      rw [this]; simp; omega) (denVs_spl q4 hd off)
  refine wp_skip' (w' := w.setRow g (cur.toList.take (off + 0) ++ (a.eval z).cells.toList ++ cur.toList.drop (off + 0 + (a.eval z).cells.toList.length)).toArray) ?_ ?_
  · have hsz : (sizeOf t).run P w = .ok sz w := by
      cases ag
      · exact (ldT_one hl w).2
      exact (ldT_agg hl w).2
    have q2' : a.eval y = .pointer (some ⟨g, off, none⟩) := q2
    simp only [execOp, hop, q2', Instr.storeAt, Instr.sureAddr, Sem.run_bind, Sem.run_pure, Result.andThen_ok, storeVar, hsz, hvs, ne_eq, not_true_eq_false, if_false, hrun]
  rw [hdst]
  exact hK _ _ (hr.skip k1 h2 h3 k2 _)
end
end Go.Proofs.YtokmkopihhnggaaGreatDoor
