/- From a walked law to its row: the arguments opened into plain readings; what stands behind the call. No program in sight. -/
import Derived.Test.YtgmedcncbpdimaaDoorBaseM
import Derived.ProofKit
import Derived.OpenShut
import Derived.Deep.Slices
import Derived.Test.YtgmedcncbpdimaaDoorProg
import Derived.Deep.Strs
set_option linter.unusedVariables false
set_option linter.unusedSimpArgs false
section
/- From a walked law to its row: the arguments opened into plain readings; what stands behind the call. No program in sight. -/
namespace Go.Proofs.YtgmedcncbpdimaaDoor
open Go.RowKit Go.ChangeShapes Go.WideShapes Go.ChangeAt

theorem trodAll_below {H : Type} {enc : TypeId × Value → H} {P : Program} (hl : laidOutB P = true) {W W' : World} (hb : Below W.heap.size W W') :
    ∀ (ts : List TypeId) (vs : List Value) (ds : List (DataW H)) (ps : List MemPlace), (∀ t ∈ ts, P.readableRec t = true ∧ t < P.types.size) → (∀ p ∈ ps, p.block < W.heap.size) →
      DataW.TrodAll enc P W 0 (fun _ => true) true ts vs ds ps → DataW.TrodAll enc P W' 0 (fun b => decide (b < W.heap.size)) true ts vs ds ps := by
  intro ts
  induction ts with
  | nil =>
    intro vs ds ps _ _ h
    obtain ⟨rfl, rfl, rfl⟩ := trodAll_nil h
    exact trodAll_mk0
  | cons t ts ih =>
    intro vs ds ps hts hps h
    obtain ⟨v, vs', d, ds', p, q, rfl, rfl, rfl, h0, h1⟩ := trodAll_cons h
    have ht := hts t (by simp)
    refine trodAll_cons_mk ?_ (ih _ _ _ (fun t' ht' => hts t' (by simp [ht'])) (fun x hx => hps x (by simp [hx])) h1)
    exact Below.trod hl ht.1 ht.2 h0 hb (fun x hx => hps x (by simp [hx]))

/-- What a law's row asks behind the call: true; nothing of old memory has turned. -/
theorem law_post {H : Type} {enc : TypeId × Value → H} {P : Program} {fn : Func} {s : ChangeSpec} {W W' : World} {args : Array Value} {ds : List (DataW H)} {before : List MemPlace} {bt : TypeId}
    (hl : laidOutB P = true) (hts : fn.params.toList.all (fun t => P.readableRec t && decide (t < P.types.size)) = true) (hvars : s.vars = [])
    (hW : DataW.Whole enc P fn.params.toList s.vars false W args.toList ds [] before)
    (hres : (s.fn H (ds ++ [])).results = [.lit (.bool true)]) (hargs : (s.fn H (ds ++ [])).args = ds) (hrv : (s.fn H (ds ++ [])).vars = [])
    (hrt : fn.resultTypes = #[bt]) (hbt : P.underlying bt = some .bool) (hb : Below W.heap.size W W') : s.post enc P fn false true false false W args (.bool true) W' := by
  have hW0 := hW
  obtain ⟨p, q, hA, hV, rfl, _, _⟩ := hW
  rw [hvars] at hV
  obtain ⟨_, hq⟩ := trodVars_none hV
  have hlt := hW0.lt
  refine ⟨ds, [], p ++ q, [], p, [], hW0, ?_, ?_, ?_, ?_, fun h => by cases h⟩
  · rw [hres, hrt]
    exact trodAll_mk1 (shut_bool hbt true)
  · rw [hargs]
    exact trodAll_below hl hb _ _ _ _ (fun t ht => by have := List.all_eq_true.1 hts t ht; simpa using this) (fun x hx => hlt x (by simp [hx])) hA
  · rw [hrv, hvars]; rfl
  · exact hb.frame _

/-! ### Arguments opened -/

def Opens (P : Program) (t : TypeId) {α : Type} (R : CRep α) : Prop :=
  ∀ (H : Type) (enc : TypeId × Value → H) (W : World) (fuel : Nat) (cs : List Value) (x : DataW H × List MemPlace), DataW.trod enc P W 0 (fun _ => true) true fuel t cs = some x → ∃ a, R W (LT W.heap.size) cs a

theorem opens_slice {P : Program} {t e : TypeId} {α : Type} {R : CRep α} {sz : Nat} (ht : P.underlying t = some (.slice e)) (hc : P.cellsOf e = sz) (hsz : 0 < sz) (he : Opens P e R) : Opens P t (rSlice sz R) := by
  intro H enc W fuel cs x h
  rcases Deep.open_slice ht h with ⟨rfl, _⟩ | ⟨a, len, cap, m, n, D, Pl, rfl, hb, hl, hm, hmm, _, hx⟩
  · exact ⟨[], none, 0, rfl, by simp, by unfold maxLen; omega, fun _ => rfl, .inl rfl⟩
  · rw [if_pos rfl] at hmm
    subst hmm
    rw [hc] at hx
    have hel : ∀ i, i < len → ∃ cs, cs.length = sz ∧ (∀ c, c < sz → W.cell? ((a.add (i * sz)).add c) = cs[c]?) ∧ ∃ y, R W (LT W.heap.size) cs y := by
      intro i hi
      obtain ⟨cs', h1, h2⟩ := hx i (by omega)
      obtain ⟨_, h3, h4⟩ := World.cells?_some h1
      exact ⟨cs', h3, h4, he H enc W n cs' _ h2⟩
    rcases Nat.eq_zero_or_pos len with hlen | hlen
    · subst hlen
      exact ⟨[], some a, _, rfl, by simp, hm, by simp, .inl rfl⟩
    · obtain ⟨cs0, e1, e2, _⟩ := hel 0 hlen
      have e3 := e2 0 hsz
      rw [List.getElem?_eq_getElem (by omega)] at e3
      simp only [Nat.zero_mul, Addr.add, if_pos] at e3
      have hspot : a.spot = none := by
        unfold World.cell? at e3
        cases hsp : a.spot with
        | none => rfl
        | some s => rw [hsp] at e3; split at e3 <;> simp at e3
      have hblk := World.block_lt_of_cell? _ _ e3
      obtain ⟨b, off, sp⟩ := a
      simp only at hspot hblk
      subst hspot
      have hadd : ∀ i c, ((⟨b, off, none⟩ : Addr).add (i * sz)).add c = ⟨b, off + i * sz + c, none⟩ := by
        intro i c
        unfold Addr.add
        by_cases hi : i * sz = 0 <;> by_cases hcc : c = 0 <;> simp [hi, hcc]
      let f : Fin len → α := fun i => (hel i.1 i.2).choose_spec.2.2.choose
      refine ⟨List.ofFn f, some ⟨b, off, none⟩, _, by simp, by simpa using hl, hm, by simp, .inr ⟨b, off, rfl, hblk, fun j hj => ?_⟩⟩
      have hj' : j < len := by simpa using hj
      have h5 := (hel j hj').choose_spec
      refine ⟨_, h5.1, fun c hc => by rw [← hadd]; exact h5.2.1 c hc, ?_⟩
      have h6 := h5.2.2.choose_spec
      simpa [f] using h6

theorem opens_i64 {P : Program} {t : TypeId} (ht : P.underlying t = some (.int .i64)) : Opens P t rI64 := by
  intro H enc W fuel cs x h
  obtain ⟨n, rfl, _, hw⟩ := DataW.trod_int ht h
  have : i64ok n := by simpa [Lit.wf, IntKind.min, IntKind.max, IntKind.signed, IntKind.bits, i64ok] using hw
  exact ⟨n, rfl, this⟩
theorem opens_u8 {P : Program} {t : TypeId} (ht : P.underlying t = some (.int .u8)) : Opens P t rU8 := by
  intro H enc W fuel cs x h
  obtain ⟨n, rfl, _, hw⟩ := DataW.trod_int ht h
  have : 0 ≤ n ∧ n ≤ 255 := by simpa [Lit.wf, IntKind.min, IntKind.max, IntKind.signed, IntKind.bits] using hw
  exact ⟨n.toNat, by rw [show ((n.toNat : Nat) : Int) = n by omega], by omega⟩
theorem opens_u16 {P : Program} {t : TypeId} (ht : P.underlying t = some (.int .u16)) : Opens P t rU16 := by
  intro H enc W fuel cs x h
  obtain ⟨n, rfl, _, hw⟩ := DataW.trod_int ht h
  have : 0 ≤ n ∧ n ≤ 65535 := by simpa [Lit.wf, IntKind.min, IntKind.max, IntKind.signed, IntKind.bits] using hw
  exact ⟨n.toNat, by rw [show ((n.toNat : Nat) : Int) = n by omega], by omega⟩

theorem open_slice_arg {P : Program} {t e : TypeId} {α : Type} {R : CRep α} {H : Type} {enc : TypeId × Value → H} {W : World} {v : Value} {d : DataW H} {p : List MemPlace} {base : Nat} {rc : Reach}
    (ht : P.underlying t = some (.slice e)) (hok : Value.okWide P W rc base t v) (ho : Opens P t R) (h : DataW.Trod enc P W 0 (fun _ => true) true t v d p) : ∃ l, R W (LT W.heap.size) [v] l := by
  obtain ⟨a, len, cap, rfl⟩ := okWide_slice ht hok
  obtain ⟨fuel, h⟩ := h
  exact ho H enc W fuel _ _ h
theorem open_int_arg {P : Program} {t : TypeId} {k : IntKind} {α : Type} {R : CRep α} {H : Type} {enc : TypeId × Value → H} {W : World} {v : Value} {d : DataW H} {p : List MemPlace} {base : Nat} {rc : Reach}
    (ht : P.underlying t = some (.int k)) (hok : Value.okWide P W rc base t v) (ho : Opens P t R) (h : DataW.Trod enc P W 0 (fun _ => true) true t v d p) : ∃ l, R W (LT W.heap.size) [v] l := by
  obtain ⟨n, rfl⟩ := okWide_int ht hok
  obtain ⟨fuel, h⟩ := h
  exact ho H enc W fuel _ _ h

end Go.Proofs.YtgmedcncbpdimaaDoor
end
section
/- Arguments that are rationals, opened. -/
namespace Go.Proofs.YtgmedcncbpdimaaDoor
open Go.RowKit Go.ChangeShapes Go.WideShapes Go.ChangeAt

theorem opens_fields {P : Program} {t : TypeId} {fs : Array Field} {α : Type} {R : CRep α} (ht : P.underlying t = some (.struct fs))
    (h : ∀ (H : Type) (enc : TypeId × Value → H) (W : World) (n : Nat) (cs : List Value), cs.length = P.cellsOf t →
      (∀ (i : Nat) (f : Field) (k : Nat), fs[i]? = some f → P.cellsOf f.type = k → ∃ x, DataW.trod enc P W 0 (fun _ => true) true n f.type ((cs.drop f.offset).take k) = some x) → ∃ a, R W (LT W.heap.size) cs a) : Opens P t R := by
  intro H enc W fuel cs x hx
  obtain ⟨xs, n, _, _, hl, hxs, hf⟩ := DataW.trod_struct ht hx
  refine h H enc W n cs hl fun i f k hi hk => ?_
  subst hk
  have hlt : i < xs.length := by rw [hxs]; exact (Array.getElem?_eq_some_iff.1 hi).1
  exact ⟨xs[i], by rw [hf i f hi, List.getElem?_eq_getElem hlt]⟩

theorem open_agg_arg {P : Program} {t : TypeId} {fs : Array Field} {α : Type} {R : CRep α} {H : Type} {enc : TypeId × Value → H} {W : World} {v : Value} {d : DataW H} {p : List MemPlace} {base : Nat} {rc : Reach}
    (ht : P.underlying t = some (.struct fs)) (hok : Value.okWide P W rc base t v) (ho : Opens P t R) (h : DataW.Trod enc P W 0 (fun _ => true) true t v d p) : ∃ l, ∃ cs : Array Value, v = .agg cs ∧ R W (LT W.heap.size) cs.toList l := by
  obtain ⟨cs, rfl, _⟩ := okWide_struct ht hok
  obtain ⟨fuel, h⟩ := h
  obtain ⟨a, ha⟩ := ho H enc W fuel _ _ h
  exact ⟨a, cs, rfl, ha⟩

theorem Tryd.cellsRat : Tryd.prog.cellsOf 25 = 3 := by kernel_rfl
theorem Tryd.cellsBool : Tryd.prog.cellsOf 4 = 1 := by kernel_rfl
theorem Tryd.cellsString : Tryd.prog.cellsOf 9 = 1 := by kernel_rfl
set_option maxRecDepth 100000 in
theorem opens_rat : Opens Tryd.prog 25 rRat := by
  refine opens_fields Tryd.underlying25 fun H enc W n cs hl hf => ?_
  rw [Tryd.cellsRat] at hl
  match cs, hl with
  | [c0, c1, c2], _ =>
    obtain ⟨x0, h0⟩ := hf 0 _ 1 rfl Tryd.cellsBool
    obtain ⟨x1, h1⟩ := hf 1 _ 1 rfl Tryd.cellsString
    obtain ⟨x2, h2⟩ := hf 2 _ 1 rfl Tryd.cellsString
    obtain ⟨b, e0, _⟩ := DataW.trod_bool Tryd.underlying4 h0
    obtain ⟨s1, e1, _, k1⟩ := DataW.trod_string Tryd.underlying9 h1
    obtain ⟨s2, e2, _, k2⟩ := DataW.trod_string Tryd.underlying9 h2
    replace e0 : [c0] = [.bool b] := e0
    replace e1 : [c1] = [.string s1] := e1
    replace e2 : [c2] = [.string s2] := e2
    simp only [List.cons.injEq, and_true] at e0 e1 e2
    subst e0 e1 e2
    exact ⟨⟨b, s1, s2⟩, rfl, k1, k2⟩
theorem opens_rats : Opens Tryd.prog 27 (rSlice 3 rRat) := opens_slice Tryd.underlying27 Tryd.cellsRat (by decide) opens_rat

end Go.Proofs.YtgmedcncbpdimaaDoor
end
section
/- Arguments that are disputes, opened. -/
namespace Go.Proofs.YtgmedcncbpdimaaDoor
open Go.RowKit Go.ChangeShapes Go.WideShapes Go.ChangeAt

def rLeg : CRep (Int × Int) := fun _ _ cs n => cs = [.int .i64 n.1, .int .i64 n.2] ∧ i64ok n.1 ∧ i64ok n.2
theorem Tryd.cellsInt : Tryd.prog.cellsOf 3 = 1 := by kernel_rfl
theorem Tryd.cellsLeg : Tryd.prog.cellsOf 47 = 2 := by kernel_rfl
theorem Tryd.cellsOption : Tryd.prog.cellsOf 54 = 4 := by kernel_rfl
theorem Tryd.cellsOptions : Tryd.prog.cellsOf 48 = 1 := by kernel_rfl
theorem Tryd.cellsDispute : Tryd.prog.cellsOf 50 = 3 := by kernel_rfl
set_option maxRecDepth 100000 in
theorem opens_leg : Opens Tryd.prog 47 rLeg := by
  refine opens_fields Tryd.underlying47 fun H enc W n cs hl hf => ?_
  rw [Tryd.cellsLeg] at hl
  match cs, hl with
  | [c0, c1], _ =>
    obtain ⟨x0, h0⟩ := hf 0 _ 1 rfl Tryd.cellsInt
    obtain ⟨x1, h1⟩ := hf 1 _ 1 rfl Tryd.cellsInt
    obtain ⟨a, e0, k0⟩ := opens_i64 Tryd.underlying3 H enc W _ _ _ h0
    obtain ⟨b, e1, k1⟩ := opens_i64 Tryd.underlying3 H enc W _ _ _ h1
    replace e0 : [c0] = [.int .i64 a] := e0
    replace e1 : [c1] = [.int .i64 b] := e1
    simp only [List.cons.injEq, and_true] at e0 e1
    subst e0 e1
    exact ⟨(a, b), rfl, k0, k1⟩
set_option maxRecDepth 100000 in
theorem opens_opt : Opens Tryd.prog 54 rOpt := by
  refine opens_fields Tryd.underlying54 fun H enc W n cs hl hf => ?_
  rw [Tryd.cellsOption] at hl
  match cs, hl with
  | [c0, c1, c2, c3], _ =>
    obtain ⟨x0, h0⟩ := hf 0 _ 3 rfl Tryd.cellsRat
    obtain ⟨x1, h1⟩ := hf 1 _ 1 rfl Tryd.cellsInt
    obtain ⟨a, e0, k0, k0'⟩ := opens_rat H enc W _ _ _ h0
    obtain ⟨b, e1, k1⟩ := opens_i64 Tryd.underlying3 H enc W _ _ _ h1
    replace e0 : [c0, c1, c2] = [.bool a.neg, .string a.num, .string a.den] := e0
    replace e1 : [c3] = [.int .i64 b] := e1
    simp only [List.cons.injEq, and_true] at e0 e1
    obtain ⟨rfl, rfl, rfl⟩ := e0
    subst e1
    exact ⟨⟨a, b⟩, rfl, k0, k0', k1⟩
theorem opens_opts : Opens Tryd.prog 48 (rSlice 4 rOpt) := opens_slice Tryd.underlying48 Tryd.cellsOption (by decide) opens_opt
set_option maxRecDepth 100000 in
theorem opens_disp : Opens Tryd.prog 50 rDisp := by
  refine opens_fields Tryd.underlying50 fun H enc W n cs hl hf => ?_
  rw [Tryd.cellsDispute] at hl
  match cs, hl with
  | [c0, c1, c2], _ =>
    obtain ⟨x0, h0⟩ := hf 0 _ 2 rfl Tryd.cellsLeg
    obtain ⟨x1, h1⟩ := hf 1 _ 1 rfl Tryd.cellsOptions
    obtain ⟨a, e0, k0, k0'⟩ := opens_leg H enc W _ _ _ h0
    obtain ⟨l, k1⟩ := opens_opts H enc W _ _ _ h1
    replace e0 : [c0, c1] = [.int .i64 a.1, .int .i64 a.2] := e0
    replace k1 : rSlice 4 rOpt W (LT W.heap.size) [c2] l := k1
    simp only [List.cons.injEq, and_true] at e0
    obtain ⟨rfl, rfl⟩ := e0
    exact ⟨⟨a.1, a.2, l⟩, c2, rfl, k0, k0', k1⟩
theorem opens_disps : Opens Tryd.prog 52 (rSlice 3 rDisp) := opens_slice Tryd.underlying52 Tryd.cellsDispute (by decide) opens_disp

end Go.Proofs.YtgmedcncbpdimaaDoor
end
