/- The abstract machine: maps of the call's own: made, asked, written. No program in sight. -/
import Derived.Test.YtokmkopihhnggaaGreatDoorAb3M
import Derived.Lib.AppendZerosOnto
import Derived.Lib.MinMax
set_option linter.unusedVariables false
set_option linter.unusedSimpArgs false
set_option linter.unnecessarySimpa false
set_option linter.unusedSectionVars false
namespace Go.Proofs.YtokmkopihhnggaaGreatDoor
open Go Go.RowKit
def eqW : Value → Value → Bool
 | .agg a, .agg b => eqVs a.toList b.toList
 | a, b => eqV a b
def kvOf : C → Option (Value × Value)
 | .lit (.agg a) => match a.toList with
  | [k, v] => some (k, v)
  | _ => none
 | _ => none
def ent (k v : Value) : C := .lit (.agg #[k, v])
theorem kvOf_ent (k v : Value) : kvOf (ent k v) = some (k, v) := rfl
def mget (k : Value) : List C → Option Value
 | [] => none
 | c :: cs => match kvOf c with
  | some (k', v) => if eqW k k' = true then some v else mget k cs
  | none => mget k cs
def mput (k v : Value) : List C → List C
 | [] => [ent k v]
 | c :: cs => match kvOf c with
  | some (k', _) => if eqW k k' = true then ent k v :: cs else c :: mput k v cs
  | none => c :: mput k v cs
def MK (P : Program) (kt : TypeId) (k : Value) (cs : List C) : Prop :=
 (∀ b w, (Instr.checkKey b 10000 kt k).run P w = .ok () w) ∧ (∃ dsc, P.underlying kt = some dsc ∧
 ∀ c ∈ cs, ∃ k' v', c = ent k' v' ∧ (∀ w, (Op.equal kt k k').run P w = .ok (eqW k k') w) ∧ (Instr.sameNow dsc k k' = none ∨ Instr.sameNow dsc k k' = some (eqW k k')) ∧ (eqW k k' = true → Instr.sameBits 10000 k' k = true))
def keyV : AV → Option Value
 | .val (.one (.lit v)) => some v
 | .val (.agg cs) => (litsOf cs).map fun l => .agg l.toArray
 | _ => none
def mpT (P : Program) (t : TypeId) : Option (TypeId × Value) :=
 match P.underlying t with
 | some (.map k e) => match (P.info? e).map (·.zero) with
  | some (some z) => some (k, z)
  | _ => none
 | _ => none
def lookA (ok : Bool) (r : Option Value) (z : Value) : Option AV :=
 match litA (r.getD z) with
 | .val a => some (if ok then .tup [a, .one (.lit (.bool r.isSome))] else .val a)
 | _ => none
def stillLook (P : Program) (st : St) : Op → Option (Prop × AV)
 | .lookup t m k ok => match ev st m, keyV (ev st k), mpT P t with
  | .val (.one (.own nm s n sz)), some kv, some (kt, z) => match st.H nm with
   | some B => match lookA ok (mget kv B.cs) z with
    | some x => some (B.st = s ∧ n = 0 ∧ sz = 0 ∧ MK P kt kv B.cs, x)
    | none => none
   | none => none
  | _, _, _ => none
 | _ => none
section
variable {P : Program} {e : En} {k0 : Kx} {N : Nat} {st st' : St} {a : Act} {w : World} {σ : Nat → Value} {o : Oper} {p : Prop} {x : AV} {d : Nat} {K : Act → World → Prop} {Q : Exit → Act → World → Prop}
theorem keyV_den {κ : Kx} {v kv : Value} {y : AV} (h : keyV y = some kv) (hd : denA κ v y) : v = kv := by
 unfold keyV at h
 split at h <;> try (cases h; done)
 ·obtain rfl := Option.some.inj h
  simp only [denA, den1, den] at hd
  exact hd.1
 rename_i cs
 rw [Option.map_eq_some_iff] at h
 obtain ⟨l, h1, rfl⟩ := h
 obtain ⟨vs, h2, h3⟩ := hd
 rw [h2, litsOf_den h1 h3]
def fnd (k : Value) : List MapEntry → Nat → Option (Nat × Value)
 | [], _ => none
 | e :: es, i => if eqW k e.key = true then some (i, e.val) else fnd k es (i + 1)
theorem fnd_mget (k : Value) : ∀ (es : List MapEntry) (i : Nat), (fnd k es i).map (·.2) = mget k (es.map entC)
 | [], _ => rfl
 | e :: es, i => by
  simp only [fnd, List.map_cons, mget, entC, kvOf]
  split
  ·rfl
  exact fnd_mget k es (i + 1)
theorem asking_run {kt : TypeId} {k : Value} {w : World} : ∀ (es : List MapEntry) (i : Nat), (∀ e ∈ es, ∀ w, (Op.equal kt k e.key).run P w = .ok (eqW k e.key) w) → (Instr.findAsking kt k es i).run P w = .ok (fnd k es i) w
 | [], i, _ => rfl
 | e :: es, i, h => by
  simp only [Instr.findAsking, Sem.run_bind, h e (by simp) w, Result.andThen_ok, fnd]
  split
  ·rfl
  exact asking_run es (i + 1) (fun e' he' => h e' (by simp [he']))
theorem now_run {dsc : TypeDesc} {k : Value} : ∀ (es : List MapEntry) (i : Nat), (∀ e ∈ es, Instr.sameNow dsc k e.key = none ∨ Instr.sameNow dsc k e.key = some (eqW k e.key)) → Instr.findNow dsc k es i = none ∨ Instr.findNow dsc k es i = some (fnd k es i)
 | [], i, _ => .inr rfl
 | e :: es, i, h => by
  simp only [Instr.findNow, fnd]
  rcases h e (by simp) with h1 | h1
  ·rw [h1]; exact .inl rfl
  rw [h1]
  cases hq : eqW k e.key with
  | true => exact .inr rfl
  | false => simpa using now_run es (i + 1) (fun e' he' => h e' (by simp [he']))
theorem findKey_run {kt : TypeId} {k : Value} {es : List MapEntry} (h : MK P kt k (es.map entC)) (w : World) : (Instr.findKey kt k es).run P w = .ok (fnd k es 0) w := by
 obtain ⟨_, dsc, hd, hc⟩ := h
 have hk : ∀ e ∈ es, (∀ w, (Op.equal kt k e.key).run P w = .ok (eqW k e.key) w) ∧ (Instr.sameNow dsc k e.key = none ∨ Instr.sameNow dsc k e.key = some (eqW k e.key)) := fun e he => by
  obtain ⟨k', v', h1, h2, h3, _⟩ := hc (entC e) (List.mem_map_of_mem he)
  have h4 : e.key = k' := by
   simp only [entC, ent, C.lit.injEq, Value.agg.injEq] at h1
   have := congrArg Array.toList h1
   simpa using (List.cons.inj this).1
  rw [h4]; exact ⟨h2, h3⟩
 unfold Instr.findKey
 simp only [Sem.run_bind, run_underlying hd, Result.andThen_ok]
 rcases now_run es 0 (fun e he => (hk e he).2) with h1 | h1
 ·rw [h1]; exact asking_run es 0 (fun e he => (hk e he).1)
 rw [h1]; rfl
theorem mapOf (hW : RW e st.H st.nx σ w) {nm s : Nat} {v : Value} (hv : denA (kx e st.H st.nx σ w) v (.val (.one (.own nm s 0 0)))) {B : Blk} (hB : st.H nm = some B) (hs : B.st = s) :
  v = σ nm ∧ ∃ b es clock, σ nm = .map (some b) ∧ w.heap[b]? = some (.map es clock) ∧ B.cs = es.toList.map entC ∧ B.sz = 0 ∧ B.n = 0 ∧ e.w0.heap.size ≤ b := by
 simp only [denA, den1, den] at hv
 obtain ⟨h1, h2, h3⟩ := hv.2.2 B hB hs
 rcases (hW.blk nm B hB).2 with h | ⟨g1, g2, b, es, clock, g3, g4, g5, g6⟩
 ·exact (h.1 h3).elim
 exact ⟨h1, b, es, clock, g3, g5, g6, g1, g2, g4⟩
theorem mpT_run {t kt : TypeId} {z : Value} (h : mpT P t = some (kt, z)) : ∃ et, P.underlying t = some (.map kt et) ∧ ∀ w, (zeroValue et).run P w = .ok z w := by
 unfold mpT at h
 split at h <;> try (cases h; done)
 rename_i k e' hu
 split at h <;> try (cases h; done)
 rename_i z' hz
 simp only [Option.some.injEq, Prod.mk.injEq] at h
 obtain ⟨rfl, rfl⟩ := h
 refine ⟨e', hu, fun w => ?_⟩
 cases hi : P.info? e' with
 | none => rw [hi] at hz; cases hz
 | some i =>
  rw [hi] at hz
  have hz' : i.zero = some z' := by simpa using hz
  simp [zeroValue, typeInfo, hi, hz']
theorem getObj_run {b : Nat} {es : Array MapEntry} {clock : Nat} (h : w.heap[b]? = some (.map es clock)) : (getObj b).run P w = .ok (.map es clock) w := by
 simp only [getObj, Sem.run]
 rw [h]
theorem stillLook_ok (hW : RW e st.H st.nx σ w) (ht : ∀ t, denA (kx e st.H st.nx σ w) (a.tmps.getD t undef) (st.tm t)) (h : stillLook P st o.op = some (p, x)) (hp : p) : Yl P o a w (kx e st.H st.nx σ w) x := by
 generalize hop : o.op = op at h
 cases op <;> simp only [stillLook] at h <;> try (cases h; done)
 case lookup t m k ok =>
  have hm := ev_den ht m
  have hk := ev_den ht k
  split at h <;> try (cases h; done)
  rename_i nm s n sz kv kt z hem hek hmp
  rw [hem] at hm
  split at h <;> try (cases h; done)
  rename_i B hB
  split at h <;> try (cases h; done)
  rename_i y hl
  simp only [Option.some.injEq, Prod.mk.injEq] at h
  obtain ⟨rfl, rfl⟩ := h
  obtain ⟨hs, rfl, rfl, hMK⟩ := hp
  obtain ⟨h1, b, es, clock, h2, h3, h4, _⟩ := mapOf hW hm hB hs
  have hkv := keyV_den hek hk
  obtain ⟨et, h5, h6⟩ := mpT_run hmp
  rw [h4] at hMK hl
  have hlook : ∀ w', FL w w' → (Instr.lookup t (a.eval m) (a.eval k) ok).run P w' = .ok (if ok then .tuple #[(mget kv (es.toList.map entC)).getD z, .bool (mget kv (es.toList.map entC)).isSome] else (mget kv (es.toList.map entC)).getD z) w' := by
   intro w' hF
   have hb : w'.heap[b]? = some (.map es clock) := by rw [hF.2 b (Array.getElem?_eq_some_iff.1 h3).1]; exact h3
   have hf := findKey_run hMK w'
   have hg := fnd_mget kv es.toList 0
   unfold Instr.lookup
   simp only [Sem.run_bind, run_underlying h5, Result.andThen_ok, h1, h2, hkv, getObj_run hb, Sem.run_pure, hMK.1, hf]
   rw [← hg]
   cases fnd kv es.toList 0 with
   | none => cases ok <;> simp [h6 w']
   | some q => cases ok <;> simp
  refine ⟨if ok then .tuple #[(mget kv (es.toList.map entC)).getD z, .bool (mget kv (es.toList.map entC)).isSome] else (mget kv (es.toList.map entC)).getD z, fun w' hF => by simp only [execOp, hop, Sem.run_bind, hlook w' (hF.resolve_right (by simp [reads, hop])), Result.andThen_ok, Sem.run_pure], ?_⟩
  unfold lookA at hl
  split at hl <;> try (cases hl; done)
  rename_i y' hy
  obtain rfl := Option.some.inj hl
  have hden := denA_lit (kx e st.H st.nx σ w) ((mget kv (es.toList.map entC)).getD z)
  rw [hy] at hden
  cases ok with
  | true =>
   refine ⟨[(mget kv (es.toList.map entC)).getD z, .bool (mget kv (es.toList.map entC)).isSome], by simp, hden, ?_, trivial⟩
   simp only [den1, den]; exact ⟨trivial, rfl⟩
  | false => exact hden
def effMk (P : Program) (st : St) (d : Nat) (t : TypeId) : Option (Prop × St) :=
 some (True, ⟨up st.tm d (.val (.one (.own (st.nb + d) st.nx 0 0))), up st.H (st.nb + d) (some ⟨st.nx, t, 0, 0, []⟩), st.nx + 1, st.nb⟩)
theorem wp_mk {t : TypeId} (hr : Rel e k0 N st a w) (hdst : o.dst = some d) (hdN : d < N) (hop : o.op = .makeMap t none) (h : effMk P st d t = some (p, st'))
  (hK : ∀ a' w', Rel e k0 N st' a' w' → FL w w' → K a' w') : o.wp P a w K Q := by
 simp only [effMk, Option.some.injEq, Prod.mk.injEq] at h
 obtain ⟨rfl, rfl⟩ := h
 obtain ⟨σ, h1, h2, h3⟩ := hr.ex
 obtain ⟨k1, k2⟩ := h1.newV (nm0 := st.nb + d) (d := st.nb + d) (row := none) (grownBy_alloc w (.map #[] 0)) (B' := ⟨st.nx, t, 0, 0, []⟩) (v' := .map (some w.heap.size)) rfl (by simp) (fun r hr => .inl (by simp [obk] at hr; omega))
  (fun _ => .inr ⟨rfl, rfl, w.heap.size, #[], 0, up_same _ _ _, h1.size, heap_alloc_new _ _, rfl⟩)
 rw [up_up] at k1 k2
 refine wp_value (v := .map (some w.heap.size)) (w' := w.alloc (.map #[] 0)) ?_ ?_
 ·simp [execOp, hop, Instr.makeMap]
 rw [hdst]
 exact hK _ _ (hr.put k1 h2 h3 k2 (den_new_own (st.nb + d) σ _ rfl) d hdN) (FL.alloc _ _)
def effPut (P : Program) (st : St) (t : TypeId) (m k v : Operand) : Option (Prop × St) :=
 match ev st m, keyV (ev st k), keyV (ev st v), mpT P t with
 | .val (.one (.own nm s n sz)), some kv, some vv, some (kt, _) => match st.H nm with
  | some B => some (B.st = s ∧ n = 0 ∧ sz = 0 ∧ MK P kt kv B.cs, ⟨st.tm, up st.H nm (some { B with cs := mput kv vv B.cs }), st.nx, st.nb⟩)
  | none => none
 | _, _, _, _ => none
theorem setObj_run {b : Nat} {ob : Obj} {es : Array MapEntry} {clock : Nat} (h0 : w.heap[b]? = some (.map es clock)) : ∃ w', (setObj b ob).run P w = .ok () w' ∧ w.grownBy w' (some b) ∧ w'.heap[b]? = some ob := by
 have hb : b < w.heap.size := (Array.getElem?_eq_some_iff.1 h0).1
 refine ⟨{ w with heap := w.heap.setIfInBounds b ob }, ?_, ⟨rfl, rfl, rfl, by simp, fun k _ hk => ?_⟩, ?_⟩
 ·simp only [setObj, Sem.run]
  rw [h0]
 ·simp only [Array.getElem?_setIfInBounds]
  rw [if_neg (fun e => hk (by rw [e]))]
 simp [hb]
theorem fnd_mput_none {k v : Value} : ∀ {es : List MapEntry} {i : Nat}, fnd k es i = none → mput k v (es.map entC) = es.map entC ++ [ent k v]
 | [], _, _ => rfl
 | e :: es, i, h => by
  simp only [fnd] at h
  split at h <;> try (cases h; done)
  rename_i hne
  simp only [List.map_cons, mput, entC, kvOf]
  rw [if_neg hne]
  have := fnd_mput_none (v := v) h
  rw [this]; rfl
theorem fnd_mput_some {k v : Value} : ∀ {es : List MapEntry} {i j : Nat} {u : Value}, fnd k es i = some (j, u) → i ≤ j ∧ j - i < es.length ∧ (∃ x, es[j - i]? = some x ∧ eqW k x.key = true) ∧
  mput k v (es.map entC) = ((es.map entC).set (j - i) (ent k v))
 | [], _, _, _, h => by cases h
 | e :: es, i, j, u, h => by
  simp only [fnd] at h
  split at h
  ·rename_i hq
   simp only [Option.some.injEq, Prod.mk.injEq] at h
   obtain ⟨rfl, rfl⟩ := h
   refine ⟨Nat.le_refl _, by simp, ⟨e, by simp, hq⟩, ?_⟩
   simp only [List.map_cons, mput, entC, kvOf]
   rw [if_pos hq]
   simp
  rename_i hne
  obtain ⟨h1, h2, ⟨x, h3, h4⟩, h5⟩ := fnd_mput_some (v := v) h
  have e1 : j - i = (j - (i + 1)) + 1 := by omega
  refine ⟨by omega, by simp; omega, ⟨x, by rw [e1]; simpa using h3, h4⟩, ?_⟩
  rw [e1]
  simp only [List.map_cons, mput, entC, kvOf]
  rw [if_neg hne]
  simp only [List.set_cons_succ]
  rw [← h5]
theorem wp_put {t : TypeId} {m k v : Operand} (hr : Rel e k0 N st a w) (hdst : o.dst = none) (hop : o.op = .mapUpdate t m k v) (h : effPut P st t m k v = some (p, st')) (hp : p)
  (hK : ∀ a' w', Rel e k0 N st' a' w' → K a' w') : o.wp P a w K Q := by
 obtain ⟨σ, h1, h2, h3⟩ := hr.ex
 have hm := ev_den h2 m
 have hk := ev_den h2 k
 have hv := ev_den h2 v
 unfold effPut at h
 split at h <;> try (cases h; done)
 rename_i nm s n sz kv vv kt z hem hek hev hmp
 rw [hem] at hm
 split at h <;> try (cases h; done)
 rename_i B hB
 simp only [Option.some.injEq, Prod.mk.injEq] at h
 obtain ⟨rfl, rfl⟩ := h
 obtain ⟨hs, rfl, rfl, hMK⟩ := hp
 obtain ⟨g1, b, es, clock, g2, g3, g4, g5, g6, g7⟩ := mapOf h1 hm hB hs
 have hkv := keyV_den hek hk
 have hvv := keyV_den hev hv
 obtain ⟨et, h5, _⟩ := mpT_run hmp
 rw [g4] at hMK
 have hf := findKey_run hMK w
 have hlt : b < w.heap.size := (Array.getElem?_eq_some_iff.1 g3).1
 have key : ∃ w' es' clock', (Instr.mapUpdate t (a.eval m) (a.eval k) (a.eval v)).run P w = .ok () w' ∧ w.grownBy w' (some b) ∧ w'.heap[b]? = some (.map es' clock') ∧ mput kv vv (es.toList.map entC) = es'.toList.map entC := by
  cases hfn : fnd kv es.toList 0 with
  | none =>
   obtain ⟨w', q1, q2, q3⟩ := setObj_run (P := P) (w := w) (b := b) (ob := .map (es.push { key := kv, val := vv, born := clock }) (clock + 1)) g3
   refine ⟨w', _, _, ?_, q2, q3, ?_⟩
   ·unfold Instr.mapUpdate
    simp only [Sem.run_bind, run_underlying h5, Result.andThen_ok, g1, g2, hkv, hvv, getObj_run g3, Sem.run_pure, hMK.1, hf, hfn, q1]
   rw [fnd_mput_none hfn]; simp [entC, ent]
  | some q =>
   obtain ⟨j, u⟩ := q
   obtain ⟨q1, q2, ⟨x, q3, q4⟩, q5⟩ := fnd_mput_some (v := vv) hfn
   simp only [Nat.sub_zero] at q2 q3 q5
   obtain ⟨w', r1, r2, r3⟩ := setObj_run (P := P) (w := w) (b := b) (ob := .map (es.modify j fun e => { e with key := kv, val := vv }) clock) g3
   refine ⟨w', _, _, ?_, r2, r3, ?_⟩
   ·have hx : es[j]? = some x := by simpa using q3
    have hsb : Instr.sameBits 10000 x.key kv = true := by
     obtain ⟨_, dsc, _, hc⟩ := hMK
     obtain ⟨k', v', c1, _, _, c4⟩ := hc (entC x) (List.mem_map_of_mem (List.mem_of_getElem? q3))
     have h4 : x.key = k' := by
      simp only [entC, ent, C.lit.injEq, Value.agg.injEq] at c1
      have := congrArg Array.toList c1
      simpa using (List.cons.inj this).1
     rw [h4] at q4 ⊢
     exact c4 q4
    unfold Instr.mapUpdate
    simp only [Sem.run_bind, run_underlying h5, Result.andThen_ok, g1, g2, hkv, hvv, getObj_run g3, Sem.run_pure, hMK.1, hf, hfn, hx, Option.map_some, Option.getD_some, Instr.keyThatStays, hsb, if_true, r1]
   rw [q5]
   apply List.ext_getElem?
   intro i
   simp only [List.getElem?_set, List.getElem?_map, Array.getElem?_toList, Array.getElem?_modify, List.length_map, Array.length_toList]
   by_cases hij : j = i
   ·subst hij
    have hjl : j < es.size := by simpa using q2
    simp [hjl, entC, ent]
   simp [hij]
 obtain ⟨w', es', clock', r1, r2, r3, r4⟩ := key
 obtain ⟨k1, k2⟩ := h1.updV (row := some b) (cs := mput kv vv B.cs) hB r2 (fun r hr => by rw [g2, ← hr]; rfl) (fun _ => .inr ⟨g5, g6, b, es', clock', g2, g7, r3, by rw [g4]; exact r4⟩)
 refine wp_skip' (w' := w') ?_ ?_
 ·simp only [execOp, hop, Sem.run_bind, r1, Result.andThen_ok, Sem.run_pure]
 rw [hdst]
 exact hK _ _ (hr.skip k1 h2 h3 k2 _)
end
def stillCap (P : Program) (st : St) (args : Array Operand) (argTypes : Array TypeId) : Option (Prop × AV) :=
 match args.toList, argTypes.toList with
 | [x], [t] => match ev st x, elT P t with
  | .val (.one (.lit (.slice _ _ c))), some _ => some (True, one (.int .i64 c))
  | _, _ => none
 | _, _ => none
def stillMM (mx : Bool) (st : St) (args : Array Operand) : Option (Prop × AV) :=
 match args.toList with
 | [x, y] => match ev st x, ev st y with
  | .val (.one (.lit (.int k a))), .val (.one (.lit (.int _ b))) => some (True, one (.int k (if mx then max a b else min a b)))
  | _, _ => none
 | _ => none
def stillNil (P : Program) (st : St) (t : TypeId) (x : Operand) (lo hi : Option Operand) : Option (Prop × AV) :=
 match ev st x, elT P t, bnd st lo 0, bnd st hi 0 with
 | .val (.one (.lit (.slice none 0 0))), some _, some (p1, l), some (p2, h) => some (p1 ∧ p2 ∧ l = 0 ∧ h = 0, one (.slice none 0 0))
 | _, _, _, _ => none
def effZ (P : Program) (st : St) (d : Nat) (args : Array Operand) (argTypes : Array TypeId) : Option (Prop × St) :=
  match args.toList, argTypes.toList with
  | [s, x], [t, t'] => match ev st s, ev st x, elT P t, P.underlying t' with
    | .val (.one (.lit (.slice none 0 0))), .val (.one (.lit (.int _ n))), some (E, sz, by_), some (.int _) => match zrT P E with
      | some zs => some (zs.length = sz ∧ sz ≠ 0 ∧ 0 < n ∧ n * by_ ≤ 140737488355328 ∧ n ≤ 4611686018427387904,
          ⟨up st.tm d (.val (.one (.own (st.nb + d) st.nx n.toNat sz))), up st.H (st.nb + d) (some ⟨st.nx, E, sz, n.toNat, repl n.toNat (zs.map .lit)⟩), st.nx + 1, st.nb⟩)
      | none => none
    | _, _, _, _ => none
  | _, _ => none
def effSl (P : Program) (st : St) (d : Nat) (t : TypeId) (x : Operand) (lo hi : Option Operand) : Option (Prop × St) :=
  match ev st x, lo, hi, elT P t with
  | .val (.one (.own nm s n sz)), none, some h, some (_, sz', _) => match ev st h, st.H nm with
    | .val (.one (.lit (.int _ i))), some B => some (sz = sz' ∧ sz ≠ 0 ∧ B.st = s ∧ 0 ≤ i ∧ i ≤ n,
        ⟨up st.tm d (.val (.one (.own (st.nb + d) st.nx i.toNat sz))), up (up st.H nm none) (st.nb + d) (some ⟨st.nx, B.E, sz, i.toNat, B.cs.take (i.toNat * sz)⟩), st.nx + 1, st.nb⟩)
    | _, _ => none
  | _, _, _, _ => none
section
variable {P : Program} {e : En} {k0 : Kx} {N : Nat} {st st' : St} {a : Act} {w : World} {σ : Nat → Value} {o : Oper} {p : Prop} {x : AV} {d : Nat} {K : Act → World → Prop} {Q : Exit → Act → World → Prop}
theorem stillCap_ok {args : Array Operand} {argTypes : Array TypeId} (ht : ∀ t, denA (kx e st.H st.nx σ w) (a.tmps.getD t undef) (st.tm t)) (hop : o.op = .call { callee := .builtin .cap, args, argTypes }) (h : stillCap P st args argTypes = some (p, x)) : Yl P o a w (kx e st.H st.nx σ w) x := by
 unfold stillCap at h
 split at h <;> try (cases h; done)
 rename_i y t hargs htys
 have ha : args = #[y] := Array.toList_inj.1 hargs
 have hty : argTypes = #[t] := Array.toList_inj.1 htys
 subst ha hty
 have hy := ev_den ht y
 split at h <;> try (cases h; done)
 rename_i ad n c el hey hel
 rw [hey] at hy
 simp only [Option.some.injEq, Prod.mk.injEq] at h
 obtain ⟨rfl, rfl⟩ := h
 simp only [denA, den1, den] at hy
 obtain ⟨e', sz, by_⟩ := el
 obtain ⟨g1, _⟩ := elT_run hel
 refine ⟨.int .i64 c, fun w' _ => ?_, by simp only [denA, den1, den]; exact ⟨trivial, rfl⟩⟩
 simp [execOp, hop, resolve, invoke, builtin, hy.1, Builtin.cap_, run_underlying g1, goInt]
theorem stillMM_ok {args : Array Operand} {argTypes : Array TypeId} (mx : Bool) (ht : ∀ t, denA (kx e st.H st.nx σ w) (a.tmps.getD t undef) (st.tm t)) (hop : o.op = .call { callee := .builtin (if mx then .max else .min), args, argTypes }) (h : stillMM mx st args = some (p, x)) : Yl P o a w (kx e st.H st.nx σ w) x := by
 unfold stillMM at h
 split at h <;> try (cases h; done)
 rename_i y z hargs
 have ha : args = #[y, z] := Array.toList_inj.1 hargs
 subst ha
 have hy := ev_den ht y
 have hz := ev_den ht z
 split at h <;> try (cases h; done)
 rename_i k n k' m hey hez
 rw [hey] at hy
 rw [hez] at hz
 simp only [Option.some.injEq, Prod.mk.injEq] at h
 obtain ⟨rfl, rfl⟩ := h
 simp only [denA, den1, den] at hy hz
 refine ⟨.int k (if mx then max n m else min n m), fun w' _ => ?_, by simp only [denA, den1, den]; exact ⟨trivial, rfl⟩⟩
 cases mx
 ·simp [execOp, hop, resolve, invoke, builtin, hy.1, hz.1, Lib.run_min_ints]
 simp [execOp, hop, resolve, invoke, builtin, hy.1, hz.1, Lib.run_max_ints]
theorem stillNil_ok {t : TypeId} {y : Operand} {lo hi : Option Operand} (ht : ∀ t, denA (kx e st.H st.nx σ w) (a.tmps.getD t undef) (st.tm t)) (hop : o.op = .slice t y lo hi none) (h : stillNil P st t y lo hi = some (p, x)) (hp : p) : Yl P o a w (kx e st.H st.nx σ w) x := by
 unfold stillNil at h
 have hy := ev_den ht y
 split at h <;> try (cases h; done)
 rename_i el p1 l p2 hh hey hel hb1 hb2
 rw [hey] at hy
 simp only [Option.some.injEq, Prod.mk.injEq] at h
 obtain ⟨rfl, rfl⟩ := h
 obtain ⟨hp1, hp2, rfl, rfl⟩ := hp
 simp only [denA, den1, den] at hy
 obtain ⟨e', sz, by_⟩ := el
 obtain ⟨g1, j, g2, g3, _⟩ := elT_run hel
 refine ⟨.slice none 0 0, fun w' _ => ?_, by simp only [denA, den1, den]; exact ⟨trivial, rfl⟩⟩
 have e1 : (Instr.sliceBounds true 0 0 (lo.map a.eval) (hi.map a.eval) none).run P w' = .ok (0, 0, 0) w' := by
  rcases bnd_ok ht hb1 hp1 with ⟨rfl, _⟩ | ⟨z1, k1, rfl, q1⟩ <;> rcases bnd_ok ht hb2 hp2 with ⟨rfl, _⟩ | ⟨z2, k2, rfl, q2⟩
  ·simp [Instr.sliceBounds]
  ·simp [Instr.sliceBounds, q2, Instr.sliceBound, asIntOf]
  ·simp [Instr.sliceBounds, q1, Instr.sliceBound, asIntOf]
  simp [Instr.sliceBounds, q1, q2, Instr.sliceBound, asIntOf]
 simp [execOp, hop, hy.1, Instr.sliceAt, run_underlying g1, Instr.slice, e1, sizeOf, typeInfo, g2]
theorem wp_zeros {args : Array Operand} {argTypes : Array TypeId} (hr : Rel e k0 N st a w) (hdst : o.dst = some d) (hdN : d < N) (hop : o.op = .call { callee := .builtin .append, args, argTypes }) (h : effZ P st d args argTypes = some (p, st')) (hp : p)
  (hK : ∀ a' w', Rel e k0 N st' a' w' → K a' w') : o.wp P a w K Q := by
 obtain ⟨σ, h1, h2, h3⟩ := hr.ex
 unfold effZ at h
 split at h <;> try (cases h; done)
 rename_i s y t t' hargs htys
 have ha : args = #[s, y] := Array.toList_inj.1 hargs
 have hty : argTypes = #[t, t'] := Array.toList_inj.1 htys
 subst ha hty
 have hs := ev_den h2 s
 have hy := ev_den h2 y
 split at h <;> try (cases h; done)
 rename_i k n E sz by_ kn hes hey hel hu
 rw [hes] at hs
 rw [hey] at hy
 split at h <;> try (cases h; done)
 rename_i zs hz
 simp only [Option.some.injEq, Prod.mk.injEq] at h
 obtain ⟨rfl, rfl⟩ := h
 obtain ⟨hzs, hsz, hn0, hb, hn⟩ := hp
 simp only [denA, den1, den] at hs hy
 obtain ⟨z, q1, q2, q3⟩ := zrT_run hz
 obtain ⟨g1, i, g2, g3, g4⟩ := elT_run hel
 have hzsz : z.cells.size = sz := by rw [← hzs, ← q1]; simp
 have hzi : i.zero = some z := by
  have := q3 w
  cases hiz : i.zero with
  | none => simp [zeroValue, typeInfo, g2, hiz] at this
  | some z' => simp [zeroValue, typeInfo, g2, hiz] at this; rw [this]
 obtain ⟨m, rfl⟩ : ∃ m : Nat, n = (m : Int) := ⟨n.toNat, by omega⟩
 have hm : 0 < m := by omega
 have hbm : m * by_ ≤ 140737488355328 := by
  have : ((m * by_ : Nat) : Int) ≤ 140737488355328 := by rw [Int.natCast_mul]; exact hb
  omega
 have hfit : Builtin.nextslicecap (0 + m) 0 * i.bytes ≤ 281474976710656 := by
  have : Builtin.nextslicecap (0 + m) 0 = m := by simp [Builtin.nextslicecap, hm]
  rw [this, g4]; omega
 have hrun := Lib.run_append_grow_zeros (P := P) w t t' o.type E i z k kn g1 hu g2 hzi none 0 0 [] (by simp [Builtin.firstCells]) m hm (by rw [g3]; omega) (by omega) (by omega) (by rw [g4]; omega) hfit
 simp only [Nat.zero_add] at hrun
 have hcap := grownCap_ge w m 0 E
 have hzc : ∀ n, (Builtin.zeroCells z.cells n).toList = repl n zs := fun n => by
  have := made_repl z.cells n
  rw [q1] at this
  simp only [madeCells] at this
  simpa [Builtin.zeroCells] using this
 have hg : w.grownBy (w.drew.alloc (.cells ((#[] : Array Value) ++ Builtin.zeroCells z.cells m ++ Builtin.zeroCells z.cells (grownCap w m 0 E - m)) E)) none :=
  ⟨rfl, rfl, rfl, by simp, fun k hk _ => Below.heap_alloc _ _ _ hk⟩
 obtain ⟨k1, k2⟩ := h1.new (nm0 := st.nb + d) (d := st.nb + d) (row := none) hg (B' := ⟨st.nx, E, sz, m, repl m (zs.map .lit)⟩) (v' := .slice (some ⟨w.heap.size, 0, none⟩) m (grownCap w m 0 E)) (xs := repl m zs) rfl hsz (by simp [repl_length, hzs]) (by simp)
  (fun r hr => .inl (by simp [obk] at hr; omega)) (by
   refine ⟨by simp [repl_length, hzs], .inr ⟨w.heap.size, grownCap w m 0 E, _, rfl, h1.size, heap_alloc_new w.drew _, hcap, grownCap_le_maxLen _ _ _ _ (by unfold maxLen; omega), ?_, ?_⟩⟩
   ·simp only [Array.size_append, Array.size_empty, Nat.zero_add]
    have s1 : (Builtin.zeroCells z.cells m).size = m * sz := by have := congrArg List.length (hzc m); simpa [repl_length, hzs] using this
    have s2 : (Builtin.zeroCells z.cells (grownCap w m 0 E - m)).size = (grownCap w m 0 E - m) * sz := by have := congrArg List.length (hzc (grownCap w m 0 E - m)); simpa [repl_length, hzs] using this
    rw [s1, s2, ← Nat.add_mul]
    congr 1; omega
   simp only [Array.toList_append, List.nil_append, hzc]
   rw [List.take_left']
   simp [repl_length, hzs]) (denVs_repl (denVs_lits _ _ q2) _)
 rw [up_up] at k1 k2
 refine wp_value (v := .slice (some ⟨w.heap.size, 0, none⟩) m (grownCap w m 0 E)) (w' := w.drew.alloc (.cells ((#[] : Array Value) ++ Builtin.zeroCells z.cells m ++ Builtin.zeroCells z.cells (grownCap w m 0 E - m)) E)) ?_ ?_
 ·simp only [execOp, hop, resolve, Sem.run_bind, Sem.run_pure, Result.andThen_ok, invoke, builtin, List.map_toArray, List.map_cons, List.map_nil, hs.1, hy.1, hrun]
 rw [hdst]
 refine hK _ _ (hr.put k1 h2 h3 k2 ?_ d hdN)
 exact den_new_own (st.nb + d) σ _ rfl
theorem wp_cutRow {t : TypeId} {y : Operand} {lo hi : Option Operand} (hr : Rel e k0 N st a w) (hdst : o.dst = some d) (hdN : d < N) (hop : o.op = .slice t y lo hi none) (h : effSl P st d t y lo hi = some (p, st')) (hp : p)
    (hK : ∀ a' w', Rel e k0 N st' a' w' → FL w w' → K a' w') : o.wp P a w K Q := by
  obtain ⟨σ, h1, h2, h3⟩ := hr.ex
  unfold effSl at h
  have hy := ev_den h2 y
  split at h <;> try (cases h; done)
  rename_i nm s n sz hop2 E' sz' by_ hey hel
  have hh := ev_den h2 hop2
  rw [hey] at hy
  split at h <;> try (cases h; done)
  rename_i k i B heh hB
  rw [heh] at hh
  simp only [Option.some.injEq, Prod.mk.injEq] at h
  obtain ⟨rfl, rfl⟩ := h
  obtain ⟨rfl, hsz, hs, hi0, hin⟩ := hp
  simp only [denA, den1, den] at hy hh
  obtain ⟨f1, f2, f3⟩ := hy.2.2 B hB hs
  have f1' : a.eval y = σ nm := f1
  obtain ⟨_, g2, xs, g3, g4⟩ := h1.rowOf hB (.inl (by rw [f3]; exact hsz))
  obtain ⟨g5, j, g6, g7, _⟩ := elT_run hel
  obtain ⟨m, rfl⟩ : ∃ m : Nat, i = (m : Int) := ⟨i.toNat, by omega⟩
  have hmn : m ≤ B.n := by omega
  subst f3
  obtain ⟨ad, cap, hv, hmc⟩ : ∃ ad cap, σ nm = .slice ad B.n cap ∧ m ≤ cap := by
    rcases g3.2 with ⟨q1, q2⟩ | ⟨g, cap, cur, q1, _, _, q2, _⟩
    · exact ⟨none, 0, by rw [q2]; exact q1, by omega⟩
    exact ⟨_, cap, q1, by omega⟩
  have hown : w.ownsRow e.w0.heap.size B.E B.sz (.slice ad m cap) m (xs.take (m * B.sz)) := by
    have hml : m * B.sz ≤ xs.length := by rw [g3.1]; exact Nat.mul_le_mul_right _ hmn
    refine ⟨by simp; omega, ?_⟩
    rcases g3.2 with ⟨q1, q2⟩ | ⟨g, cap', cur, q1, q2, q3, q4, q5, q6, q7⟩
    · rw [hv] at q1
      simp only [Value.slice.injEq] at q1
      obtain ⟨rfl, _, rfl⟩ := q1
      have : m = 0 := by omega
      subst this
      exact .inl ⟨rfl, rfl⟩
    rw [hv] at q1
    simp only [Value.slice.injEq] at q1
    obtain ⟨rfl, _, rfl⟩ := q1
    refine .inr ⟨g, cap, cur, rfl, q2, q3, hmc, q5, q6, ?_⟩
    rw [← q7, List.take_take]
    congr 1
    rw [g3.1] at hml
    omega
  obtain ⟨k1, k2⟩ := h1.new (nm0 := nm) (d := st.nb + d) (row := none) (w' := w) ⟨rfl, rfl, rfl, Nat.le_refl _, fun _ _ _ => rfl⟩ (B' := ⟨st.nx, B.E, B.sz, m, B.cs.take (m * B.sz)⟩) (v' := .slice ad m cap) rfl hsz (by
      show (List.take (m * B.sz) B.cs).length = m * B.sz
      have : m * B.sz ≤ B.cs.length := by rw [g2]; exact Nat.mul_le_mul_right _ hmn
      simp; omega) (by simp) (fun r hr => .inr ⟨by rw [hv]; cases ad <;> simpa [obk] using hr, B, hB⟩) hown (g4.take _)
  refine wp_value (v := .slice ad m cap) (w' := w) ?_ ?_
  · have e1 : (Instr.sliceBounds true B.n cap none (some (.int k (m : Int))) none).run P w = .ok (0, m, cap) w := by
      have c1 : (0 : Int) ≤ (m : Int) ∧ (m : Int) ≤ (cap : Int) := ⟨by omega, by omega⟩
      simp only [Instr.sliceBounds, Instr.sliceBound, asIntOf, Sem.run_bind, Sem.run_pure, Result.andThen_ok, Sem.run_ite, if_pos c1, Int.toNat_natCast]
    have e2 : (if cap = 0 then ad else ad.map (·.add (0 * B.sz))) = ad := by
      split
      · rfl
      cases ad with
      | none => rfl
      | some q => simp [Addr.add]
    simp only [execOp, hop, f1', hv, hh.1, Option.map_some, Option.map_none, Sem.run_bind, Instr.sliceAt, run_underlying g5, Result.andThen_ok, Instr.slice, e1, sizeOf, typeInfo, run_program, g6, g7, Sem.run_pure, Nat.sub_zero, e2]
  rw [hdst]
  refine hK _ _ (hr.put k1 h2 h3 k2 ?_ d hdN) (FL.refl w)
  exact den_new_own (st.nb + d) σ _ rfl
end
mutual
def pureC : C → Bool
 | .lit _ => true
 | .sh _ _ cs => pureCs cs
 | .sp cs => pureCs cs
 | _ => false
def pureCs : List C → Bool
 | [] => true
 | c :: cs => pureC c && pureCs cs
end
def flatC : C → Bool
 | .lit _ => true
 | _ => false
def pure1 (a : A1) : Bool := pureCs a.cells
def flat1 (a : A1) : Bool := a.cells.all flatC
def allA (f : A1 → Bool) : AV → Bool
 | .val a => f a
 | .tup l => l.all f
 | .dead => true
mutual
theorem den_pure {κ κ' : Kx} (h : ∀ b, κ.S b → κ'.S b ∧ κ'.w.heap[b]? = κ.w.heap[b]?) : ∀ {c : C} {v : Value}, pureC c = true → den κ v c → den κ' v c
 | .lit x, v, _, d => by simp only [den] at d ⊢; exact d
 | .sh sz n cs, v, hp, d => by
  simp only [pureC] at hp
  simp only [den] at d ⊢
  obtain ⟨a, cap, h1, h2, h3, h4, h5, h6⟩ := d
  refine ⟨a, cap, h1, h2, h3, h4, h5, ?_⟩
  rcases h6 with h6 | ⟨b, off, h6, h7, h8⟩
  ·exact .inl h6
  exact .inr ⟨b, off, h6, (h b h7).1, denM_pure h (h b h7).2 hp h8⟩
 | .sp cs, v, hp, d => by
  simp only [pureC] at hp
  simp only [den] at d ⊢
  obtain ⟨b, off, h1, h2, h3⟩ := d
  exact ⟨b, off, h1, (h b h2).1, denM_pure h (h b h2).2 hp h3⟩
 | .own .., v, hp, d => by simp [pureC] at hp
 | .ptr .., v, hp, d => by simp [pureC] at hp
 | .dead, v, hp, d => by simp [pureC] at hp
theorem denM_pure {κ κ' : Kx} (h : ∀ b, κ.S b → κ'.S b ∧ κ'.w.heap[b]? = κ.w.heap[b]?) {b : Nat} (hb : κ'.w.heap[b]? = κ.w.heap[b]?) : ∀ {cs : List C} {off : Nat}, pureCs cs = true → denM κ b off cs → denM κ' b off cs
 | [], off, _, _ => by simp [denM]
 | c :: cs, off, hp, d => by
  simp only [pureCs, Bool.and_eq_true] at hp
  simp only [denM] at d ⊢
  obtain ⟨⟨u, h1, h2⟩, h3⟩ := d
  exact ⟨⟨u, by rw [World.cell?_of_block (w := κ.w) hb]; exact h1, den_pure h hp.1 h2⟩, denM_pure h hb hp.2 h3⟩
end
theorem denVs_pure {κ κ' : Kx} (h : ∀ b, κ.S b → κ'.S b ∧ κ'.w.heap[b]? = κ.w.heap[b]?) : ∀ {vs : List Value} {cs : List C}, pureCs cs = true → denVs κ vs cs → denVs κ' vs cs
 | [], [], _, _ => trivial
 | _ :: _, _ :: _, hp, d => by
  simp only [pureCs, Bool.and_eq_true] at hp
  exact ⟨den_pure h hp.1 d.1, denVs_pure h hp.2 d.2⟩
 | [], _ :: _, _, d => d.elim
 | _ :: _, [], _, d => d.elim
theorem den1_pure {κ κ' : Kx} (h : ∀ b, κ.S b → κ'.S b ∧ κ'.w.heap[b]? = κ.w.heap[b]?) : ∀ {a : A1} {v : Value}, pure1 a = true → den1 κ v a → den1 κ' v a
 | .one c, v, hp, d => by
  simp only [pure1, A1.cells, pureCs, Bool.and_true] at hp
  exact den_pure h hp d
 | .agg cs, v, hp, ⟨vs, h1, h2⟩ => ⟨vs, h1, denVs_pure h hp h2⟩
theorem den1s_pure {κ κ' : Kx} (h : ∀ b, κ.S b → κ'.S b ∧ κ'.w.heap[b]? = κ.w.heap[b]?) : ∀ {vs : List Value} {l : List A1}, l.all pure1 = true → den1s κ vs l → den1s κ' vs l
 | [], [], _, _ => trivial
 | _ :: _, _ :: _, hp, d => by
  simp only [List.all_cons, Bool.and_eq_true] at hp
  exact ⟨den1_pure h hp.1 d.1, den1s_pure h hp.2 d.2⟩
 | [], _ :: _, _, d => d.elim
 | _ :: _, [], _, d => d.elim
theorem denA_pure {κ κ' : Kx} (h : ∀ b, κ.S b → κ'.S b ∧ κ'.w.heap[b]? = κ.w.heap[b]?) {v : Value} {x : AV} (hp : allA pure1 x = true) (d : denA κ v x) : denA κ' v x := by
 cases x with
 | val a => exact den1_pure h hp d
 | tup l => obtain ⟨vs, h1, h2⟩ := d; exact ⟨vs, h1, den1s_pure h hp h2⟩
 | dead => trivial
theorem denVs_flat {κ κ' : Kx} : ∀ {vs : List Value} {cs : List C}, cs.all flatC = true → denVs κ vs cs → denVs κ' vs cs
 | [], [], _, _ => trivial
 | _ :: _, c :: _, hp, d => by
  simp only [List.all_cons, Bool.and_eq_true] at hp
  refine ⟨?_, denVs_flat hp.2 d.2⟩
  cases c with
  | lit x => have := d.1; simp only [den] at this ⊢; exact this
  | _ => simp [flatC] at hp
 | [], _ :: _, _, d => d.elim
 | _ :: _, [], _, d => d.elim
theorem den1_flat {κ κ' : Kx} : ∀ {a : A1} {v : Value}, flat1 a = true → den1 κ v a → den1 κ' v a
 | .one c, v, hp, d => (denVs_flat (κ' := κ') (vs := [v]) (cs := [c]) hp ⟨d, trivial⟩).1
 | .agg cs, v, hp, ⟨vs, h1, h2⟩ => ⟨vs, h1, denVs_flat hp h2⟩
theorem den1s_flat {κ κ' : Kx} : ∀ {vs : List Value} {l : List A1}, l.all flat1 = true → den1s κ vs l → den1s κ' vs l
 | [], [], _, _ => trivial
 | _ :: _, _ :: _, hp, d => by
  simp only [List.all_cons, Bool.and_eq_true] at hp
  exact ⟨den1_flat hp.1 d.1, den1s_flat hp.2 d.2⟩
 | [], _ :: _, _, d => d.elim
 | _ :: _, [], _, d => d.elim
theorem denA_flat {κ κ' : Kx} {v : Value} {x : AV} (hp : allA flat1 x = true) (d : denA κ v x) : denA κ' v x := by
 cases x with
 | val a => exact den1_flat hp d
 | tup l => obtain ⟨vs, h1, h2⟩ := d; exact ⟨vs, h1, den1s_flat hp h2⟩
 | dead => trivial
def kIn (w : World) (T : Nat → Prop) (w' : World) : Kx := ⟨w.heap.size, T, w', fun _ => .slice none 0 0, fun _ => none, 0⟩
def fnOK (P : Program) (f : FuncId) : Prop := ∃ fn, P.funcs[f]? = some fn ∧ fn.name ≠ "runtime.NumGoroutine" ∧ fn.body.isNone = false
def ACall (P : Program) (f : FuncId) (args : List A1) (res : AV) : Prop :=
 fnOK P f ∧ ∀ (w : World) (T : Nat → Prop) (vs : List Value), (∀ b, T b → b < w.heap.size) → den1s (kIn w T w) vs args →
  Calls P f vs.toArray w fun e w' => ∃ v, e = .returned v ∧ Below w.heap.size w w' ∧ denA (kIn w T w') v res
def snapC (st : St) : C → Option (Prop × C × Bool)
 | .own nm s n sz => if sz = 0 then none else match st.H nm with
  | some B => some (B.st = s ∧ pureCs B.cs = true, .sh sz n B.cs, true)
  | none => none
 | .ptr .. => none
 | .dead => none
 | c => some (pureC c = true, c, false)
def snapCs (st : St) : List C → Option (Prop × List C × Bool)
 | [] => some (True, [], false)
 | c :: cs => match snapC st c, snapCs st cs with
  | some (p, d, b), some (q, ds, b') => some (p ∧ q, d :: ds, b || b')
  | _, _ => none
def snap1 (st : St) : A1 → Option (Prop × A1 × Bool)
 | .one c => match snapC st c with
  | some (p, d, b) => some (p, .one d, b)
  | none => none
 | .agg cs => match snapCs st cs with
  | some (p, ds, b) => some (p, .agg ds, b)
  | none => none
def snaps (st : St) : List AV → Option (Prop × List A1 × Bool)
 | [] => some (True, [], false)
 | .val a :: l => match snap1 st a, snaps st l with
  | some (p, d, b), some (q, ds, b') => some (p ∧ q, d :: ds, b || b')
  | _, _ => none
 | _ => none
section
variable {P : Program} {e : En} {k0 : Kx} {N : Nat} {st st' : St} {a : Act} {w : World} {σ : Nat → Value} {o : Oper} {p : Prop} {x : AV} {d : Nat} {K : Act → World → Prop} {Q : Exit → Act → World → Prop}
def kAll (w : World) : Kx := kIn w (fun b => b < w.heap.size) w
theorem kAll_S {w : World} {b : Nat} (h : b < w.heap.size) : (kAll w).S b := ⟨.inl h, h, fun _ _ h => by cases h⟩
theorem snapC_ok (hW : RW e st.H st.nx σ w) {c d : C} {b : Bool} {v : Value} (hd : den (kx e st.H st.nx σ w) v c) (h : snapC st c = some (p, d, b)) (hp : p) :
  den (kAll w) v d ∧ pureC d = true ∧ (b = false → d = c) := by
 have toAll : ∀ b, (kx e st.H st.nx σ w).S b → (kAll w).S b ∧ (kAll w).w.heap[b]? = (kx e st.H st.nx σ w).w.heap[b]? := fun b hb => ⟨kAll_S hb.2.1, rfl⟩
 cases c with
 | own nm s n sz =>
  simp only [snapC] at h
  split at h <;> try (cases h; done)
  rename_i hsz
  split at h <;> try (cases h; done)
  rename_i B hB
  simp only [Option.some.injEq, Prod.mk.injEq] at h
  obtain ⟨rfl, rfl, rfl⟩ := h
  obtain ⟨hs, hpure⟩ := hp
  simp only [den] at hd
  obtain ⟨h1, h2, h3⟩ := hd.2.2 B hB hs
  subst h2; subst h3
  have hpub := hW.publish hB hsz
  refine ⟨?_, by simpa [pureC] using hpure, fun h => by cases h⟩
  have h1' : v = σ nm := h1
  rw [h1']
  exact den_pure (κ := kx e (up st.H nm none) st.nx σ w) (fun b hb => ⟨kAll_S hb.2.1, rfl⟩) (by simpa [pureC] using hpure) hpub
 | lit x =>
  simp only [snapC, Option.some.injEq, Prod.mk.injEq] at h; obtain ⟨rfl, rfl, rfl⟩ := h
  exact ⟨den_pure toAll hp hd, hp, fun _ => rfl⟩
 | sh sz n cs =>
  simp only [snapC, Option.some.injEq, Prod.mk.injEq] at h; obtain ⟨rfl, rfl, rfl⟩ := h
  exact ⟨den_pure toAll hp hd, hp, fun _ => rfl⟩
 | sp cs =>
  simp only [snapC, Option.some.injEq, Prod.mk.injEq] at h; obtain ⟨rfl, rfl, rfl⟩ := h
  exact ⟨den_pure toAll hp hd, hp, fun _ => rfl⟩
 | ptr nm s off => simp only [snapC] at h; cases h
 | dead => simp only [snapC] at h; cases h
theorem snapCs_ok (hW : RW e st.H st.nx σ w) : ∀ {cs ds : List C} {b : Bool} {vs : List Value} {p : Prop}, denVs (kx e st.H st.nx σ w) vs cs → snapCs st cs = some (p, ds, b) → p → denVs (kAll w) vs ds ∧ pureCs ds = true ∧ (b = false → ds = cs)
 | [], ds, b, [], p, _, h, hp => by
  simp only [snapCs, Option.some.injEq, Prod.mk.injEq] at h
  obtain ⟨rfl, rfl, rfl⟩ := h
  exact ⟨trivial, rfl, fun _ => rfl⟩
 | [], _, _, _ :: _, _, hd, _, _ => hd.elim
 | _ :: _, _, _, [], _, hd, _, _ => hd.elim
 | c :: cs, ds, b, v :: vs, p, hd, h, hp => by
  simp only [snapCs] at h
  split at h <;> try (cases h; done)
  rename_i p1 d1 b1 p2 d2 b2 h1 h2
  simp only [Option.some.injEq, Prod.mk.injEq] at h
  obtain ⟨rfl, rfl, rfl⟩ := h
  obtain ⟨k1, k2, k3⟩ := snapC_ok hW hd.1 h1 hp.1
  obtain ⟨m1, m2, m3⟩ := snapCs_ok hW hd.2 h2 hp.2
  refine ⟨⟨k1, m1⟩, by simp [pureCs, k2, m2], fun hb => ?_⟩
  simp only [Bool.or_eq_false_iff] at hb
  rw [k3 hb.1, m3 hb.2]
theorem snap1_ok (hW : RW e st.H st.nx σ w) {x y : A1} {b : Bool} {v : Value} (hd : den1 (kx e st.H st.nx σ w) v x) (h : snap1 st x = some (p, y, b)) (hp : p) : den1 (kAll w) v y ∧ pure1 y = true ∧ (b = false → y = x) := by
 cases x with
 | one c =>
  simp only [snap1] at h
  split at h <;> try (cases h; done)
  rename_i p1 d1 b1 h1
  simp only [Option.some.injEq, Prod.mk.injEq] at h
  obtain ⟨rfl, rfl, rfl⟩ := h
  obtain ⟨k1, k2, k3⟩ := snapC_ok hW hd h1 hp
  exact ⟨k1, by simp [pure1, A1.cells, pureCs, k2], fun hb => by rw [k3 hb]⟩
 | agg cs =>
  simp only [snap1] at h
  split at h <;> try (cases h; done)
  rename_i p1 d1 b1 h1
  simp only [Option.some.injEq, Prod.mk.injEq] at h
  obtain ⟨rfl, rfl, rfl⟩ := h
  obtain ⟨vs, g1, g2⟩ := hd
  obtain ⟨k1, k2, k3⟩ := snapCs_ok hW g2 h1 hp
  exact ⟨⟨vs, g1, k1⟩, k2, fun hb => by rw [k3 hb]⟩
theorem snaps_ok (hW : RW e st.H st.nx σ w) : ∀ {l : List AV} {ys : List A1} {b : Bool} {vs : List Value} {p : Prop}, (vs.length = l.length ∧ ∀ i (h : i < vs.length) (h' : i < l.length), denA (kx e st.H st.nx σ w) vs[i] l[i]) → snaps st l = some (p, ys, b) → p →
  den1s (kAll w) vs ys ∧ ys.all pure1 = true ∧ (b = false → den1s (kx e st.H st.nx σ w) vs ys)
 | [], ys, b, [], p, _, h, hp => by
  simp only [snaps, Option.some.injEq, Prod.mk.injEq] at h
  obtain ⟨rfl, rfl, rfl⟩ := h
  exact ⟨trivial, rfl, fun _ => trivial⟩
 | [], _, _, _ :: _, _, hd, _, _ => by simp at hd
 | _ :: _, _, _, [], _, hd, _, _ => by simp at hd
 | .tup _ :: _, _, _, _ :: _, _, _, h, _ => by simp [snaps] at h
 | .dead :: _, _, _, _ :: _, _, _, h, _ => by simp [snaps] at h
 | .val x :: l, ys, b, v :: vs, p, hd, h, hp => by
  simp only [snaps] at h
  split at h <;> try (cases h; done)
  rename_i p1 d1 b1 p2 d2 b2 h1 h2
  simp only [Option.some.injEq, Prod.mk.injEq] at h
  obtain ⟨rfl, rfl, rfl⟩ := h
  have hd0 : den1 (kx e st.H st.nx σ w) v x := hd.2 0 (by simp) (by simp)
  obtain ⟨k1, k2, k3⟩ := snap1_ok hW hd0 h1 hp.1
  obtain ⟨m1, m2, m3⟩ := snaps_ok hW (l := l) (vs := vs) ⟨by simpa using hd.1, fun i h h' => hd.2 (i + 1) (by simpa using h) (by simpa using h')⟩ h2 hp.2
  refine ⟨⟨k1, m1⟩, by simp [k2, m2], fun hb => ?_⟩
  simp only [Bool.or_eq_false_iff] at hb
  exact ⟨by rw [k3 hb.1]; exact hd0, m3 hb.2⟩
def goesTo (a : Act) (c : Call) (f : FuncId) : Prop := ∃ x, c.callee = .value x ∧ a.eval x = .func (.func f) #[] #[]
theorem enter_run {c : Call} {f : FuncId} (hop : o.op = .call c) (hcal : goesTo a c f) (hf : fnOK P f) : (execOp a.eval o).run P w = .ok (.enter f (c.args.toList.map a.eval).toArray) w := by
 obtain ⟨fn, hf1, hf2, hf3⟩ := hf
 obtain ⟨callee, args, argTypes⟩ := c
 obtain ⟨x, hx1, hx2⟩ := hcal
 simp only at hx1
 subst hx1
 have hbn : ¬ fn.body = none := fun h => by rw [h] at hf3; cases hf3
 simp only [execOp, hop, Sem.run_bind, resolve, hx2, Deferred.ofValue]
 have e1 : Array.map a.eval args = (List.map a.eval args.toList).toArray := by rw [← Array.toList_map, Array.toArray_toList]
 simp [invoke, callFunc, hf1, hf2, hbn, e1]
theorem wp_acall {c : Call} {f : FuncId} (hr : Rel e k0 N st a w) (hdst : o.dst = some d) (hdN : d < N) (hop : o.op = .call c) (hcal : goesTo a c f)
  {ys : List A1} {b : Bool} (hs : snaps st (c.args.toList.map (ev st)) = some (p, ys, b)) (hp : p) {res : AV} (hc : ACall P f ys res) (hres : allA (if b then flat1 else pure1) res = true)
  (hK : ∀ a' w', Rel e k0 N ⟨up st.tm d res, st.H, st.nx, st.nb⟩ a' w' → FL w w' → K a' w') : o.wp P a w K Q := by
 obtain ⟨σ, h1, h2, h3⟩ := hr.ex
 obtain ⟨k1, k2, k3⟩ := snaps_ok h1 (vs := c.args.toList.map a.eval) (by
  refine ⟨by simp, fun i h h' => ?_⟩
  simp only [List.getElem_map]
  exact ev_den h2 _) hs hp
 obtain ⟨hf, hc⟩ := hc
 have hrun := enter_run (w := w) hop hcal hf
 have key : ∀ (T : Nat → Prop), (∀ b, T b → b < w.heap.size) → den1s (kIn w T w) (c.args.toList.map a.eval) ys → (∀ v w', Below w.heap.size w w' → denA (kIn w T w') v res → denA (kx e st.H st.nx σ w') v res) → o.wp P a w K Q := by
  intro T hT hargs hout
  unfold Oper.wp
  rw [hrun]
  refine (hc w T _ hT hargs).mono fun ex w' hex => ?_
  obtain ⟨v, rfl, hb, hv⟩ := hex
  obtain ⟨q1, q2⟩ := h1.keep (grownBy_below hb)
  show K (a.put o.dst v) w'
  rw [hdst]
  exact hK _ _ (hr.put q1 h2 h3 q2 (hout v w' hb hv) d hdN) (FL.of_below hb)
 cases b with
 | true =>
  refine key (fun b => b < w.heap.size) (fun _ h => h) k1 fun v w' _ hv => denA_flat (by simpa using hres) hv
 | false =>
  refine key (kx e st.H st.nx σ w).S (fun b hb => hb.2.1) ?_ fun v w' hb hv => ?_
  ·exact den1s_pure (κ := kx e st.H st.nx σ w) (κ' := kIn w (kx e st.H st.nx σ w).S w) (fun b hb => ⟨⟨.inl hb, hb.2.1, fun _ _ h => by cases h⟩, rfl⟩) k2 (k3 rfl)
  refine denA_pure (κ := kIn w (kx e st.H st.nx σ w).S w') (κ' := kx e st.H st.nx σ w') (fun b hbS => ⟨?_, rfl⟩) (by simpa using hres) hv
  obtain ⟨h5, h6, _⟩ := hbS
  rcases h5 with h5 | h5
  ·have h5' : (kx e st.H st.nx σ w).S b := h5
   exact ⟨h5'.1, h6, h5'.2.2⟩
  refine ⟨.inr (Nat.le_trans h1.size h5), h6, fun nm B hB hob => ?_⟩
  have := (h1.lt hB hob).2
  have h5' : w.heap.size ≤ b := h5
  omega
end
def cut1 (ag : Bool) (sz off : Nat) (cs : List C) : Option A1 :=
 if ag then some (.agg ((cs.drop off).take sz)) else (cs[off]?).map .one
theorem cut_cut1 {ag : Bool} {sz off : Nat} {cs : List C} {a : A1} (h : cut1 ag sz off cs = some a) : cut ag sz off cs = .val a := by
 unfold cut1 at h
 unfold cut
 cases ag with
 | true => simp at h; subst h; rfl
 | false =>
  simp only [Bool.false_eq_true, if_false, Option.map_eq_some_iff] at h
  obtain ⟨c, h1, rfl⟩ := h
  simp [h1]
def resV (P : Program) (st : St) : ResultVar → Option (Prop × A1)
 | .tmp t => match st.tm t with
  | .val a => some (True, a)
  | _ => none
 | .cell t ty => match st.tm t, ldT P ty with
  | .val (.one (.ptr nm s off)), some (ag, sz) => match st.H nm with
   | some B => match cut1 ag sz off B.cs with
    | some a => some (B.st = s ∧ off + sz ≤ B.cs.length ∧ (ag = true ∨ sz = 1), a)
    | none => none
   | none => none
  | _, _ => none
def tupA : List A1 → AV
 | [a] => .val a
 | l => .tup l
def iniT : Nat → List A1 → Nat → AV
 | _, [] => fun _ => .dead
 | k, a :: l => up (iniT (k + 1) l) k (.val a)
def runR (tmps : Array Value) : ResultVar → Sem Value
 | .tmp t => pure (tmps.getD t undef)
 | .cell b t => do loadVar t (← asAddr (tmps.getD b undef))
theorem results_eq (fn : Func) (tmps : Array Value) : results fn tmps = (do let vs ← fn.results.mapM (runR tmps); pure (if h : vs.size = 1 then vs[0] else .tuple vs)) := by
 unfold results
 congr 1
section
variable {P : Program} {e : En} {k0 : Kx} {N : Nat} {st st' : St} {a : Act} {w : World} {σ : Nat → Value}
theorem resV_ok (hW : RW e st.H st.nx σ w) (ht : ∀ t, denA (kx e st.H st.nx σ w) (a.tmps.getD t undef) (st.tm t)) {r : ResultVar} {p : Prop} {x : A1} (h : resV P st r = some (p, x)) (hp : p) :
  ∃ v, (runR a.tmps r).run P w = .ok v w ∧ den1 (kx e st.H st.nx σ w) v x := by
 cases r with
 | tmp t =>
  simp only [resV] at h
  split at h <;> try (cases h; done)
  rename_i y hy
  simp only [Option.some.injEq, Prod.mk.injEq] at h
  obtain ⟨rfl, rfl⟩ := h
  have := ht t
  rw [hy] at this
  exact ⟨_, rfl, this⟩
 | cell t ty =>
  simp only [resV] at h
  split at h <;> try (cases h; done)
  rename_i nm s off ag sz hy hl
  split at h <;> try (cases h; done)
  rename_i B hB
  split at h <;> try (cases h; done)
  rename_i y hc
  simp only [Option.some.injEq, Prod.mk.injEq] at h
  obtain ⟨rfl, rfl⟩ := h
  obtain ⟨hs, hk, ha⟩ := hp
  have h0 := ht t
  rw [hy] at h0
  obtain ⟨b, h1, h2, xs, h3, h4⟩ := own_ptr hW h0 hB hs
  obtain ⟨v, h5, h6⟩ := load_at (P := P) (w := w) (b := b) (off := 0) hl h4 hk ha (fun j u hu => by have := h3.cells h1 j u hu; rwa [add_lit] at this)
  rw [cut_cut1 hc] at h6
  refine ⟨v, ?_, h6⟩
  have := h5 w (FL.refl w)
  rw [Nat.zero_add] at this
  simp only [Instr.loadAt, Instr.sureAddr, Sem.run_bind, Sem.run_pure, Result.andThen_ok] at this
  simp only [runR, h2, asAddr, Sem.run_bind, Sem.run_pure, Result.andThen_ok, this]
theorem iniT_den {κ : Kx} : ∀ (l : List A1) (vs : List Value) (k : Nat), den1s κ vs l → ∀ t, denA κ (if k ≤ t then vs.getD (t - k) undef else undef) (iniT k l t)
 | [], [], k, _, t => trivial
 | [], _ :: _, _, h, _ => h.elim
 | _ :: _, [], _, h, _ => h.elim
 | x :: l, v :: vs, k, h, t => by
  simp only [iniT]
  by_cases ht : t = k
  ·subst ht
   rw [up_same]
   show den1 κ _ x
   simpa using h.1
  rw [up_ne _ _ ht]
  have := iniT_den l vs (k + 1) h.2 t
  by_cases hk : k ≤ t
  ·rw [if_pos (by omega)] at this
   rw [if_pos hk]
   rw [show t - k = (t - (k + 1)) + 1 by omega]
   simpa using this
  rw [if_neg (by omega)] at this
  rw [if_neg hk]; exact this
end
def APost (e : En) (k0 : Kx) (N : Nat) (Q : Exit → St → Prop) (ex : Exit) (a : Act) (w : World) : Prop := (∀ c, ex ≠ .panic c) ∧ ∃ st, Q ex st ∧ Rel e k0 N st a w
def Awp (P : Program) (e : En) (k0 : Kx) (N : Nat) (c : Code) (Q : Exit → St → Prop) (st : St) : Prop := ∀ a w, Rel e k0 N st a w → c.wp P (APost e k0 N Q) a w
def resI (P : Program) (st : St) : List ResultVar → Option (Prop × List A1)
 | [] => some (True, [])
 | r :: l => match resV P st r, resI P st l with
  | some (p, a), some (q, as) => some (p ∧ q, a :: as)
  | _, _ => none
def ArI0 (P : Program) (Rl : List ResultVar) (R : AV → Hp → Nat → Prop) (st : St) : Prop :=
 match resI P st Rl with
 | some (p, l) => p ∧ R (tupA l) st.H st.nx
 | none => False
def ArI (P : Program) (Rl : List ResultVar) (R : AV → Hp → Nat → Prop) : Exit → St → Prop
 | .normal, st => ArI0 P Rl R st
 | .ret, st => ArI0 P Rl R st
 | _, _ => False
def ACallI (P : Program) (f : FuncId) (args : List A1) (H : Hp) (nx : Nat) (R : AV → Hp → Nat → Prop) : Prop :=
 fnOK P f ∧ ∀ (e : En) (σ : Nat → Value) (w : World) (vs : List Value), RW e H nx σ w → den1s (kx e H nx σ w) vs args →
  Calls P f vs.toArray w fun ex w' => ∃ v res H' nx' σ', ex = .returned v ∧ RW e H' nx' σ' w' ∧ Ext (kx e H nx σ w) (kx e H' nx' σ' w') ∧ denA (kx e H' nx' σ' w') v res ∧ R res H' nx'
def raws : List AV → Option (List A1)
 | [] => some []
 | .val a :: l => (raws l).map (a :: ·)
 | _ => none
section
variable {P : Program} {e : En} {k0 : Kx} {N : Nat} {st st' : St} {a : Act} {w : World} {σ : Nat → Value} {o : Oper} {p : Prop} {x : AV} {d : Nat} {K : Act → World → Prop} {Q : Exit → Act → World → Prop}
theorem raws_ok {κ : Kx} : ∀ {l : List AV} {ys : List A1} {vs : List Value}, (vs.length = l.length ∧ ∀ i (h : i < vs.length) (h' : i < l.length), denA κ vs[i] l[i]) → raws l = some ys → den1s κ vs ys
 | [], ys, [], _, h => by simp [raws] at h; subst h; trivial
 | [], _, _ :: _, hd, _ => by simp at hd
 | _ :: _, _, [], hd, _ => by simp at hd
 | .val x :: l, ys, v :: vs, hd, h => by
  simp only [raws, Option.map_eq_some_iff] at h
  obtain ⟨zs, h1, rfl⟩ := h
  exact ⟨hd.2 0 (by simp) (by simp), raws_ok (l := l) ⟨by simpa using hd.1, fun i h h' => hd.2 (i + 1) (by simpa using h) (by simpa using h')⟩ h1⟩
 | .tup _ :: _, _, _ :: _, _, h => by simp [raws] at h
 | .dead :: _, _, _ :: _, _, h => by simp [raws] at h
theorem den1s_length {κ : Kx} : ∀ {vs : List Value} {l : List A1}, den1s κ vs l → vs.length = l.length
 | [], [], _ => rfl
 | _ :: _, _ :: _, h => congrArg (· + 1) (den1s_length h.2)
 | [], _ :: _, h => h.elim
 | _ :: _, [], h => h.elim
theorem enter_tmps {κ : Kx} {vs : List Value} {args : List A1} {n : Nat} (hd : den1s κ vs args) (hn : args.length ≤ n) :
  (∀ t, denA κ ((vs.toArray ++ Array.replicate (n - vs.toArray.size) undef).getD t undef) (iniT 0 args t)) ∧ (vs.toArray ++ Array.replicate (n - vs.toArray.size) undef).size = n := by
 have hlen := den1s_length hd
 refine ⟨fun t => ?_, by simp; omega⟩
 have := iniT_den args vs 0 hd t
 simp only [Nat.zero_le, if_true, Nat.sub_zero] at this
 have e1 : (vs.toArray ++ Array.replicate (n - vs.toArray.size) undef).getD t undef = vs.getD t undef := by
  rw [Array.getD_eq_getD_getElem?, List.getD_eq_getElem?_getD]
  rcases Nat.lt_or_ge t vs.length with ht | ht
  ·rw [Array.getElem?_append_left (by simpa using ht)]; simp
  rw [Array.getElem?_append_right (by simpa using ht), List.getElem?_eq_none ht]
  simp only [Array.getElem?_replicate]
  split <;> rfl
 rw [e1]; exact this
theorem resI_ok (hW : RW e st.H st.nx σ w) (ht : ∀ t, denA (kx e st.H st.nx σ w) (a.tmps.getD t undef) (st.tm t)) : ∀ {l : List ResultVar} {p : Prop} {xs : List A1}, resI P st l = some (p, xs) → p →
  ∃ vs, (l.mapM (runR a.tmps)).run P w = .ok vs w ∧ den1s (kx e st.H st.nx σ w) vs xs
 | [], p, xs, h, _ => by
  simp only [resI, Option.some.injEq, Prod.mk.injEq] at h
  obtain ⟨rfl, rfl⟩ := h
  exact ⟨[], rfl, trivial⟩
 | r :: l, p, xs, h, hp => by
  simp only [resI] at h
  split at h <;> try (cases h; done)
  rename_i p1 a1 q as h1 h2
  simp only [Option.some.injEq, Prod.mk.injEq] at h
  obtain ⟨rfl, rfl⟩ := h
  obtain ⟨v, k1, k2⟩ := resV_ok hW ht h1 hp.1
  obtain ⟨vs, k3, k4⟩ := resI_ok hW ht h2 hp.2
  refine ⟨v :: vs, ?_, k2, k4⟩
  rw [List.mapM_cons]
  simp only [Sem.run_bind, k1, k3, Result.andThen_ok, Sem.run_pure]
theorem tup_run {κ : Kx} {fn : Func} {tmps : Array Value} {vs : List Value} {l : List A1} (k1 : (fn.results.toList.mapM (runR tmps)).run P w = .ok vs w) (k2 : den1s κ vs l) : ∃ v, (results fn tmps).run P w = .ok v w ∧ denA κ v (tupA l) := by
 have hm : (fn.results.mapM (runR tmps)).run P w = .ok vs.toArray w := by
  rw [Array.mapM_eq_mapM_toList]
  simp only [Sem.run_map, k1, Result.andThen_ok]
 have hlen := den1s_length k2
 have hr : (results fn tmps).run P w = .ok (if h : vs.toArray.size = 1 then vs.toArray[0] else .tuple vs.toArray) w := by
  rw [results_eq, Sem.run_bind, hm]; rfl
 refine ⟨_, hr, ?_⟩
 match l, vs, k2, hlen with
 | [x], [v], k2, _ => exact k2.1
 | [], [], k2, _ => exact ⟨[], rfl, trivial⟩
 | x :: y :: l, v :: u :: vs, k2, _ => exact ⟨v :: u :: vs, by simp, k2⟩
theorem acallI_of {f : FuncId} {fn : Func} {c : Code} {args : List A1} {H : Hp} {nx : Nat} {R : AV → Hp → Nat → Prop} (nb : Nat) (hf : P.funcs[f]? = some fn) (hb : fn.body = some c) (hn : fn.name ≠ "runtime.NumGoroutine") {N : Nat} (hNt : fn.ntmps = N) (hN : args.length ≤ N)
    {Rl : List ResultVar} (hR : fn.results.toList = Rl) (h : ∀ e k0, Awp P e k0 N c (ArI P Rl R) ⟨iniT 0 args, H, nx, nb⟩) : ACallI P f args H nx R := by
  subst hNt hR
  refine ⟨⟨fn, hf, hn, by rw [hb]; rfl⟩, fun e σ w vs h1 hargs => ?_⟩
  obtain ⟨t1, t2⟩ := enter_tmps (n := fn.ntmps) hargs hN
  have hrel : Rel e (kx e H nx σ w) fn.ntmps ⟨iniT 0 args, H, nx, nb⟩ { tmps := vs.toArray ++ Array.replicate (fn.ntmps - vs.toArray.size) undef, defers := [] } w :=
    ⟨⟨σ, h1, t1, Ext.refl _⟩, rfl, t2⟩
  have fin : ∀ st' a' w', Rel e (kx e H nx σ w) fn.ntmps st' a' w' → ArI0 P fn.results.toList R st' →
      a'.defers = [] ∧ ∃ v, (results fn a'.tmps).run P w' = .ok v w' ∧ ∃ v' res H' nx' σ', Ending.returned v = .returned v' ∧ RW e H' nx' σ' w' ∧ Ext (kx e H nx σ w) (kx e H' nx' σ' w') ∧ denA (kx e H' nx' σ' w') v' res ∧ R res H' nx' := by
    intro st' a' w' hr' hq
    obtain ⟨σ', g1, g2, g3⟩ := hr'.ex
    unfold ArI0 at hq
    split at hq <;> try (exact hq.elim; done)
    rename_i p l hl
    obtain ⟨vs, m1, m2⟩ := resI_ok g1 g2 hl hq.1
    obtain ⟨v, m3, m4⟩ := tup_run (fn := fn) m1 m2
    exact ⟨hr'.df, v, m3, v, _, _, _, σ', rfl, g1, g3, m4, hq.2⟩
  refine calls_of_wp hf hb ?_
  refine wp_mono (h e _ _ w hrel) fun ex a' w' ⟨hp, st', hq, hr'⟩ => ?_
  cases ex with
  | normal => exact fin st' a' w' hr' hq
  | ret => exact fin st' a' w' hr' hq
  | panic c => exact (hp c rfl).elim
  | exit i => exact hq.elim
  | goto l => exact hq.elim
  | outgrown => exact hq.elim
theorem wp_inline {c : Call} {f : FuncId} (hr : Rel e k0 N st a w) (hdst : o.dst = some d) (hdN : d < N) (hop : o.op = .call c) (hcal : goesTo a c f)
  {ys : List A1} (hs : raws (c.args.toList.map (ev st)) = some ys) {R : AV → Hp → Nat → Prop} (hc : ACallI P f ys st.H st.nx R)
  (hK : ∀ res H nx, R res H nx → ∀ a' w', Rel e k0 N ⟨up st.tm d res, H, nx, st.nb⟩ a' w' → K a' w') : o.wp P a w K Q := by
 obtain ⟨σ, h1, h2, h3⟩ := hr.ex
 obtain ⟨hf, hc⟩ := hc
 have hargs := raws_ok (κ := kx e st.H st.nx σ w) (vs := c.args.toList.map a.eval) (by
  refine ⟨by simp, fun i h h' => ?_⟩
  simp only [List.getElem_map]
  exact ev_den h2 _) hs
 have hrun := enter_run (w := w) hop hcal hf
 unfold Oper.wp
 rw [hrun]
 refine (hc e σ w _ h1 hargs).mono fun ex w' hex => ?_
 obtain ⟨v, res, H', nx', σ', rfl, g1, g2, g3, g4⟩ := hex
 show K (a.put o.dst v) w'
 rw [hdst]
 exact hK _ _ _ g4 _ _ (hr.put g1 h2 h3 g2 g3 d hdN)
end
end Go.Proofs.YtokmkopihhnggaaGreatDoor
