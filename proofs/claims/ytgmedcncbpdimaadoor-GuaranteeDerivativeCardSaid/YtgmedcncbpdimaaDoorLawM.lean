/- From a walked law to its row: the arguments opened into plain readings; what stands behind the call. No program in sight. -/
import Derived.Test.YtgmedcncbpdimaaDoorBaseM
import Derived.ProofKit
import Derived.OpenShut
import Derived.Deep.Slices
set_option linter.unusedVariables false
set_option linter.unusedSimpArgs false
/- From a walked law to its row: the arguments opened into plain readings; what stands behind the call. No program in sight. -/
namespace Go.Proofs.YtgmedcncbpdimaaDoor
open Go.RowKit Go.ChangeShapes Go.WideShapes Go.ChangeAt

theorem trodAll_below {H : Type} {enc : TypeId × Value → H} {P : Program} (hl : laidOutB P = true) {W W' : World} (hb : Below W.heap.size W W') :
    ∀ (ts : List TypeId) (vs : List Value) (ds : List (DataW H)) (ps : List MemPlace), (∀ t ∈ ts, P.readableRec t = true ∧ t < P.types.size) → (∀ p ∈ ps, p.block < W.heap.size) →
      DataW.TrodAll enc P W 0 (fun _ => true) true ts vs ds ps → DataW.TrodAll enc P W' 0 (fun b => decide (b < W.heap.size)) true ts vs ds ps := by
  intro ts
  induction ts with
  | nil =>
    intro vs ds ps _ _ h
    obtain ⟨rfl, rfl, rfl⟩ := trodAll_nil h
    exact trodAll_mk0
  | cons t ts ih =>
    intro vs ds ps hts hps h
    obtain ⟨v, vs', d, ds', p, q, rfl, rfl, rfl, h0, h1⟩ := trodAll_cons h
    have ht := hts t (by simp)
    refine trodAll_cons_mk ?_ (ih _ _ _ (fun t' ht' => hts t' (by simp [ht'])) (fun x hx => hps x (by simp [hx])) h1)
    exact Below.trod hl ht.1 ht.2 h0 hb (fun x hx => hps x (by simp [hx]))

/-- What a law's row asks behind the call: true; nothing of old memory has turned. -/
theorem law_post {H : Type} {enc : TypeId × Value → H} {P : Program} {fn : Func} {s : ChangeSpec} {W W' : World} {args : Array Value} {ds : List (DataW H)} {before : List MemPlace} {bt : TypeId}
    (hl : laidOutB P = true) (hts : fn.params.toList.all (fun t => P.readableRec t && decide (t < P.types.size)) = true) (hvars : s.vars = [])
    (hW : DataW.Whole enc P fn.params.toList s.vars false W args.toList ds [] before)
    (hres : (s.fn H (ds ++ [])).results = [.lit (.bool true)]) (hargs : (s.fn H (ds ++ [])).args = ds) (hrv : (s.fn H (ds ++ [])).vars = [])
    (hrt : fn.resultTypes = #[bt]) (hbt : P.underlying bt = some .bool) (hb : Below W.heap.size W W') : s.post enc P fn false true false false W args (.bool true) W' := by
  have hW0 := hW
  obtain ⟨p, q, hA, hV, rfl, _, _⟩ := hW
  rw [hvars] at hV
  obtain ⟨_, hq⟩ := trodVars_none hV
  have hlt := hW0.lt
  refine ⟨ds, [], p ++ q, [], p, [], hW0, ?_, ?_, ?_, ?_, fun h => by cases h⟩
  · rw [hres, hrt]
    exact trodAll_mk1 (shut_bool hbt true)
  · rw [hargs]
    exact trodAll_below hl hb _ _ _ _ (fun t ht => by have := List.all_eq_true.1 hts t ht; simpa using this) (fun x hx => hlt x (by simp [hx])) hA
  · rw [hrv, hvars]; rfl
  · exact hb.frame _

/-! ### Arguments opened -/

def Opens (P : Program) (t : TypeId) {α : Type} (R : CRep α) : Prop :=
  ∀ (H : Type) (enc : TypeId × Value → H) (W : World) (fuel : Nat) (cs : List Value) (x : DataW H × List MemPlace), DataW.trod enc P W 0 (fun _ => true) true fuel t cs = some x → ∃ a, R W (LT W.heap.size) cs a

theorem opens_slice {P : Program} {t e : TypeId} {α : Type} {R : CRep α} {sz : Nat} (ht : P.underlying t = some (.slice e)) (hc : P.cellsOf e = sz) (hsz : 0 < sz) (he : Opens P e R) : Opens P t (rSlice sz R) := by
  intro H enc W fuel cs x h
  rcases Deep.open_slice ht h with ⟨rfl, _⟩ | ⟨a, len, cap, m, n, D, Pl, rfl, hb, hl, hm, hmm, _, hx⟩
  · exact ⟨[], none, 0, rfl, by simp, by unfold maxLen; omega, fun _ => rfl, .inl rfl⟩
  · rw [if_pos rfl] at hmm
    subst hmm
    rw [hc] at hx
    have hel : ∀ i, i < len → ∃ cs, cs.length = sz ∧ (∀ c, c < sz → W.cell? ((a.add (i * sz)).add c) = cs[c]?) ∧ ∃ y, R W (LT W.heap.size) cs y := by
      intro i hi
      obtain ⟨cs', h1, h2⟩ := hx i (by omega)
      obtain ⟨_, h3, h4⟩ := World.cells?_some h1
      exact ⟨cs', h3, h4, he H enc W n cs' _ h2⟩
    rcases Nat.eq_zero_or_pos len with hlen | hlen
    · subst hlen
      exact ⟨[], some a, _, rfl, by simp, hm, by simp, .inl rfl⟩
    · obtain ⟨cs0, e1, e2, _⟩ := hel 0 hlen
      have e3 := e2 0 hsz
      rw [List.getElem?_eq_getElem (by omega)] at e3
      simp only [Nat.zero_mul, Addr.add, if_pos] at e3
      have hspot : a.spot = none := by
        unfold World.cell? at e3
        cases hsp : a.spot with
        | none => rfl
        | some s => rw [hsp] at e3; split at e3 <;> simp at e3
      have hblk := World.block_lt_of_cell? _ _ e3
      obtain ⟨b, off, sp⟩ := a
      simp only at hspot hblk
      subst hspot
      have hadd : ∀ i c, ((⟨b, off, none⟩ : Addr).add (i * sz)).add c = ⟨b, off + i * sz + c, none⟩ := by
        intro i c
        unfold Addr.add
        by_cases hi : i * sz = 0 <;> by_cases hcc : c = 0 <;> simp [hi, hcc]
      let f : Fin len → α := fun i => (hel i.1 i.2).choose_spec.2.2.choose
      refine ⟨List.ofFn f, some ⟨b, off, none⟩, _, by simp, by simpa using hl, hm, by simp, .inr ⟨b, off, rfl, hblk, fun j hj => ?_⟩⟩
      have hj' : j < len := by simpa using hj
      have h5 := (hel j hj').choose_spec
      refine ⟨_, h5.1, fun c hc => by rw [← hadd]; exact h5.2.1 c hc, ?_⟩
      have h6 := h5.2.2.choose_spec
      simpa [f] using h6

theorem opens_i64 {P : Program} {t : TypeId} (ht : P.underlying t = some (.int .i64)) : Opens P t rI64 := by
  intro H enc W fuel cs x h
  obtain ⟨n, rfl, _, hw⟩ := DataW.trod_int ht h
  have : i64ok n := by simpa [Lit.wf, IntKind.min, IntKind.max, IntKind.signed, IntKind.bits, i64ok] using hw
  exact ⟨n, rfl, this⟩
theorem opens_u8 {P : Program} {t : TypeId} (ht : P.underlying t = some (.int .u8)) : Opens P t rU8 := by
  intro H enc W fuel cs x h
  obtain ⟨n, rfl, _, hw⟩ := DataW.trod_int ht h
  have : 0 ≤ n ∧ n ≤ 255 := by simpa [Lit.wf, IntKind.min, IntKind.max, IntKind.signed, IntKind.bits] using hw
  exact ⟨n.toNat, by rw [show ((n.toNat : Nat) : Int) = n by omega], by omega⟩
theorem opens_u16 {P : Program} {t : TypeId} (ht : P.underlying t = some (.int .u16)) : Opens P t rU16 := by
  intro H enc W fuel cs x h
  obtain ⟨n, rfl, _, hw⟩ := DataW.trod_int ht h
  have : 0 ≤ n ∧ n ≤ 65535 := by simpa [Lit.wf, IntKind.min, IntKind.max, IntKind.signed, IntKind.bits] using hw
  exact ⟨n.toNat, by rw [show ((n.toNat : Nat) : Int) = n by omega], by omega⟩

theorem open_slice_arg {P : Program} {t e : TypeId} {α : Type} {R : CRep α} {H : Type} {enc : TypeId × Value → H} {W : World} {v : Value} {d : DataW H} {p : List MemPlace} {base : Nat} {rc : Reach}
    (ht : P.underlying t = some (.slice e)) (hok : Value.okWide P W rc base t v) (ho : Opens P t R) (h : DataW.Trod enc P W 0 (fun _ => true) true t v d p) : ∃ l, R W (LT W.heap.size) [v] l := by
  obtain ⟨a, len, cap, rfl⟩ := okWide_slice ht hok
  obtain ⟨fuel, h⟩ := h
  exact ho H enc W fuel _ _ h
theorem open_int_arg {P : Program} {t : TypeId} {k : IntKind} {α : Type} {R : CRep α} {H : Type} {enc : TypeId × Value → H} {W : World} {v : Value} {d : DataW H} {p : List MemPlace} {base : Nat} {rc : Reach}
    (ht : P.underlying t = some (.int k)) (hok : Value.okWide P W rc base t v) (ho : Opens P t R) (h : DataW.Trod enc P W 0 (fun _ => true) true t v d p) : ∃ l, R W (LT W.heap.size) [v] l := by
  obtain ⟨n, rfl⟩ := okWide_int ht hok
  obtain ⟨fuel, h⟩ := h
  exact ho H enc W fuel _ _ h

end Go.Proofs.YtgmedcncbpdimaaDoor
