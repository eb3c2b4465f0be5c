/- From a walked law to its row: the arguments opened into plain readings; what stands behind the call. No program in sight. -/
import Derived.Test.YtokmkopihhnggaaGreatDoorJfM
import Derived.ProofKit
import Derived.OpenShut
import Derived.Deep.Slices
import Derived.Test.YtokmkopihhnggaaGreatDoorProg
import Derived.Deep.Strs
import Derived.Test.YtokmkopihhnggaaGreatDoorAbGM
import Derived.Shelf.Sort.Plain
import Derived.Shelf.Slices.CompactI
import Derived.Shelf.Slices.In.SortNone
import Derived.Sort.OwnSortedInts
import Derived.Lib.RowBridge
set_option linter.unusedVariables false
set_option linter.unusedSimpArgs false
set_option linter.defProp false
namespace Go.Proofs.YtokmkopihhnggaaGreatDoor
open Go.RowKit Go.ChangeShapes Go.WideShapes Go.ChangeAt
theorem trodAll_below {H : Type} {enc : TypeId × Value → H} {P : Program} (hl : laidOutB P = true) {W W' : World} (hb : Below W.heap.size W W') :
  ∀ (ts : List TypeId) (vs : List Value) (ds : List (DataW H)) (ps : List MemPlace), (∀ t ∈ ts, P.readableRec t = true ∧ t < P.types.size) → (∀ p ∈ ps, p.block < W.heap.size) →
   DataW.TrodAll enc P W 0 (fun _ => true) true ts vs ds ps → DataW.TrodAll enc P W' 0 (fun b => decide (b < W.heap.size)) true ts vs ds ps := by
 intro ts
 induction ts with
 | nil =>
  intro vs ds ps _ _ h
  obtain ⟨rfl, rfl, rfl⟩ := trodAll_nil h
  exact trodAll_mk0
 | cons t ts ih =>
  intro vs ds ps hts hps h
  obtain ⟨v, vs', d, ds', p, q, rfl, rfl, rfl, h0, h1⟩ := trodAll_cons h
  have ht := hts t (by simp)
  refine trodAll_cons_mk ?_ (ih _ _ _ (fun t' ht' => hts t' (by simp [ht'])) (fun x hx => hps x (by simp [hx])) h1)
  exact Below.trod hl ht.1 ht.2 h0 hb (fun x hx => hps x (by simp [hx]))
theorem law_post {H : Type} {enc : TypeId × Value → H} {P : Program} {fn : Func} {s : ChangeSpec} {W W' : World} {args : Array Value} {ds : List (DataW H)} {before : List MemPlace} {bt : TypeId}
  (hl : laidOutB P = true) (hts : fn.params.toList.all (fun t => P.readableRec t && decide (t < P.types.size)) = true) (hvars : s.vars = [])
  (hW : DataW.Whole enc P fn.params.toList s.vars false W args.toList ds [] before)
  (hres : (s.fn H (ds ++ [])).results = [.lit (.bool true)]) (hargs : (s.fn H (ds ++ [])).args = ds) (hrv : (s.fn H (ds ++ [])).vars = [])
  (hrt : fn.resultTypes = #[bt]) (hbt : P.underlying bt = some .bool) (hb : Below W.heap.size W W') : s.post enc P fn false true false false W args (.bool true) W' := by
 have hW0 := hW
 obtain ⟨p, q, hA, hV, rfl, _, _⟩ := hW
 rw [hvars] at hV
 obtain ⟨_, hq⟩ := trodVars_none hV
 have hlt := hW0.lt
 refine ⟨ds, [], p ++ q, [], p, [], hW0, ?_, ?_, ?_, ?_, fun h => by cases h⟩
 ·rw [hres, hrt]
  exact trodAll_mk1 (shut_bool hbt true)
 ·rw [hargs]
  exact trodAll_below hl hb _ _ _ _ (fun t ht => by have := List.all_eq_true.1 hts t ht; simpa using this) (fun x hx => hlt x (by simp [hx])) hA
 ·rw [hrv, hvars]; rfl
 exact hb.frame _
def Opens (P : Program) (t : TypeId) {α : Type} (R : CRep α) : Prop :=
 ∀ (H : Type) (enc : TypeId × Value → H) (W : World) (fuel : Nat) (cs : List Value) (x : DataW H × List MemPlace), DataW.trod enc P W 0 (fun _ => true) true fuel t cs = some x → ∃ a, R W (LT W.heap.size) cs a
theorem opens_slice {P : Program} {t e : TypeId} {α : Type} {R : CRep α} {sz : Nat} (ht : P.underlying t = some (.slice e)) (hc : P.cellsOf e = sz) (hsz : 0 < sz) (he : Opens P e R) : Opens P t (rSlice sz R) := by
 intro H enc W fuel cs x h
 rcases Deep.open_slice ht h with ⟨rfl, _⟩ | ⟨a, len, cap, m, n, D, Pl, rfl, hb, hl, hm, hmm, _, hx⟩
 ·exact ⟨[], none, 0, rfl, by simp, by unfold maxLen; omega, fun _ => rfl, .inl rfl⟩
 rw [if_pos rfl] at hmm
 subst hmm
 rw [hc] at hx
 have hel : ∀ i, i < len → ∃ cs, cs.length = sz ∧ (∀ c, c < sz → W.cell? ((a.add (i * sz)).add c) = cs[c]?) ∧ ∃ y, R W (LT W.heap.size) cs y := by
  intro i hi
  obtain ⟨cs', h1, h2⟩ := hx i (by omega)
  obtain ⟨_, h3, h4⟩ := World.cells?_some h1
  exact ⟨cs', h3, h4, he H enc W n cs' _ h2⟩
 rcases Nat.eq_zero_or_pos len with hlen | hlen
 ·subst hlen
  exact ⟨[], some a, _, rfl, by simp, hm, by simp, .inl rfl⟩
 obtain ⟨cs0, e1, e2, _⟩ := hel 0 hlen
 have e3 := e2 0 hsz
 rw [List.getElem?_eq_getElem (by omega)] at e3
 simp only [Nat.zero_mul, Addr.add, if_pos] at e3
 have hspot : a.spot = none := by
  unfold World.cell? at e3
  cases hsp : a.spot with
  | none => rfl
  | some s => rw [hsp] at e3; split at e3 <;> simp at e3
 have hblk := World.block_lt_of_cell? _ _ e3
 obtain ⟨b, off, sp⟩ := a
 simp only at hspot hblk
 subst hspot
 have hadd : ∀ i c, ((⟨b, off, none⟩ : Addr).add (i * sz)).add c = ⟨b, off + i * sz + c, none⟩ := by
  intro i c
  unfold Addr.add
  by_cases hi : i * sz = 0 <;> by_cases hcc : c = 0 <;> simp [hi, hcc]
 let f : Fin len → α := fun i => (hel i.1 i.2).choose_spec.2.2.choose
 refine ⟨List.ofFn f, some ⟨b, off, none⟩, _, by simp, by simpa using hl, hm, by simp, .inr ⟨b, off, rfl, hblk, fun j hj => ?_⟩⟩
 have hj' : j < len := by simpa using hj
 have h5 := (hel j hj').choose_spec
 refine ⟨_, h5.1, fun c hc => by rw [← hadd]; exact h5.2.1 c hc, ?_⟩
 have h6 := h5.2.2.choose_spec
 simpa [f] using h6
theorem opens_i64 {P : Program} {t : TypeId} (ht : P.underlying t = some (.int .i64)) : Opens P t rI64 := by
 intro H enc W fuel cs x h
 obtain ⟨n, rfl, _, hw⟩ := DataW.trod_int ht h
 have : i64ok n := by simpa [Lit.wf, IntKind.min, IntKind.max, IntKind.signed, IntKind.bits, i64ok] using hw
 exact ⟨n, rfl, this⟩
theorem opens_u8 {P : Program} {t : TypeId} (ht : P.underlying t = some (.int .u8)) : Opens P t rU8 := by
 intro H enc W fuel cs x h
 obtain ⟨n, rfl, _, hw⟩ := DataW.trod_int ht h
 have : 0 ≤ n ∧ n ≤ 255 := by simpa [Lit.wf, IntKind.min, IntKind.max, IntKind.signed, IntKind.bits] using hw
 exact ⟨n.toNat, by rw [show ((n.toNat : Nat) : Int) = n by omega], by omega⟩
theorem opens_u16 {P : Program} {t : TypeId} (ht : P.underlying t = some (.int .u16)) : Opens P t rU16 := by
 intro H enc W fuel cs x h
 obtain ⟨n, rfl, _, hw⟩ := DataW.trod_int ht h
 have : 0 ≤ n ∧ n ≤ 65535 := by simpa [Lit.wf, IntKind.min, IntKind.max, IntKind.signed, IntKind.bits] using hw
 exact ⟨n.toNat, by rw [show ((n.toNat : Nat) : Int) = n by omega], by omega⟩
theorem open_slice_arg {P : Program} {t e : TypeId} {α : Type} {R : CRep α} {H : Type} {enc : TypeId × Value → H} {W : World} {v : Value} {d : DataW H} {p : List MemPlace} {base : Nat} {rc : Reach}
  (ht : P.underlying t = some (.slice e)) (hok : Value.okWide P W rc base t v) (ho : Opens P t R) (h : DataW.Trod enc P W 0 (fun _ => true) true t v d p) : ∃ l, R W (LT W.heap.size) [v] l := by
 obtain ⟨a, len, cap, rfl⟩ := okWide_slice ht hok
 obtain ⟨fuel, h⟩ := h
 exact ho H enc W fuel _ _ h
theorem open_int_arg {P : Program} {t : TypeId} {k : IntKind} {α : Type} {R : CRep α} {H : Type} {enc : TypeId × Value → H} {W : World} {v : Value} {d : DataW H} {p : List MemPlace} {base : Nat} {rc : Reach}
  (ht : P.underlying t = some (.int k)) (hok : Value.okWide P W rc base t v) (ho : Opens P t R) (h : DataW.Trod enc P W 0 (fun _ => true) true t v d p) : ∃ l, R W (LT W.heap.size) [v] l := by
 obtain ⟨n, rfl⟩ := okWide_int ht hok
 obtain ⟨fuel, h⟩ := h
 exact ho H enc W fuel _ _ h

end Go.Proofs.YtokmkopihhnggaaGreatDoor
namespace Go.Proofs.YtokmkopihhnggaaGreatDoor
open Go.RowKit Go.ChangeShapes Go.WideShapes Go.ChangeAt Go
def rC {α : Type} (enc : α → List C) (ok : α → Prop) : CRep α := fun W T cs a => denVs (kIn W T W) cs (enc a) ∧ ok a
def cSl {α : Type} (sz : Nat) (enc : α → List C) (l : List α) : List C := [.sh sz l.length (flat enc l)]
def okSl {α : Type} (ok : α → Prop) (l : List α) : Prop := l.length ≤ maxLen ∧ ∀ a ∈ l, ok a
theorem denM_append {κ : Kx} {b : Nat} : ∀ {xs ys : List C} {off : Nat}, denM κ b off xs → denM κ b (off + xs.length) ys → denM κ b off (xs ++ ys)
 | [], ys, off, _, h => by simpa using h
 | x :: xs, ys, off, h, k => by
  simp only [denM, List.cons_append] at h ⊢
  refine ⟨h.1, denM_append h.2 ?_⟩
  rw [List.length_cons] at k
  rwa [Nat.add_assoc, Nat.add_comm 1]
theorem denM_flat {α : Type} {enc : α → List C} {sz : Nat} (hlen : ∀ a, (enc a).length = sz) {κ : Kx} {b : Nat} :
  ∀ (l : List α) (off : Nat), (∀ j (h : j < l.length), ∃ cs, cs.length = sz ∧ (∀ c, c < sz → κ.w.cell? ⟨b, off + j * sz + c, none⟩ = cs[c]?) ∧ denVs κ cs (enc l[j])) → denM κ b off (flat enc l)
 | [], _, _ => by simp [flat, denM]
 | a :: l, off, h => by
  rw [flat_cons]
  refine denM_append ?_ ?_
  ·obtain ⟨cs, h1, h2, h3⟩ := h 0 (by simp)
   refine denM.of_vals h3 fun j u hj => ?_
   have hlt : j < sz := by rw [← h1]; exact (List.getElem?_eq_some_iff.1 hj).1
   have := h2 j hlt
   rw [← hj, ← this]
   simp
  rw [hlen]
  refine denM_flat hlen l (off + sz) fun j hj => ?_
  obtain ⟨cs, h1, h2, h3⟩ := h (j + 1) (by simpa using hj)
  refine ⟨cs, h1, fun c hc => ?_, by simpa using h3⟩
  rw [← h2 c hc]
  congr 2
  rw [Nat.succ_mul]; omega
theorem opens_sl {P : Program} {t e : TypeId} {α : Type} {enc : α → List C} {ok : α → Prop} {sz : Nat} (ht : P.underlying t = some (.slice e)) (hc : P.cellsOf e = sz) (hsz : 0 < sz) (hlen : ∀ a, (enc a).length = sz)
  (he : Opens P e (rC enc ok)) : Opens P t (rC (cSl sz enc) (okSl ok)) := by
 intro H nc W fuel cs x h
 obtain ⟨l, a, cap, rfl, h1, h2, h3, h4⟩ := opens_slice ht hc hsz he H nc W fuel cs x h
 have hl : l.length ≤ maxLen := Nat.le_trans h1 h2
 rcases h4 with rfl | ⟨b, off, rfl, hb, hall⟩
 ·exact ⟨[], ⟨⟨a, cap, rfl, h1, h2, h3, by simp [flat], .inl rfl⟩, trivial⟩, hl, fun _ h => by cases h⟩
 refine ⟨l, ⟨⟨_, cap, rfl, h1, h2, h3, flat_length hlen l, .inr ⟨b, off, rfl, kAll_S hb, denM_flat hlen l off fun j hj => ?_⟩⟩, trivial⟩, hl, fun y hy => ?_⟩
 ·obtain ⟨cs, k1, k2, k3⟩ := hall j hj
  exact ⟨cs, k1, k2, k3.1⟩
 obtain ⟨j, hj, rfl⟩ := List.getElem_of_mem hy
 obtain ⟨cs, k1, k2, k3⟩ := hall j hj
 exact k3.2
theorem opensC_i64 {P : Program} {t : TypeId} (ht : P.underlying t = some (.int .i64)) : Opens P t (rC cI i64ok) := by
 intro H enc W fuel cs x h
 obtain ⟨n, rfl, hn⟩ := opens_i64 ht H enc W fuel cs x h
 exact ⟨n, ⟨⟨rfl, rfl⟩, trivial⟩, hn⟩
def cBo (b : Bool) : List C := [.lit (.bool b)]
theorem opensC_bool {P : Program} {t : TypeId} (ht : P.underlying t = some .bool) : Opens P t (rC cBo fun _ => True) := by
 intro H enc W fuel cs x h
 obtain ⟨b, e0, _⟩ := DataW.trod_bool ht h
 subst e0
 exact ⟨b, ⟨⟨rfl, rfl⟩, trivial⟩, trivial⟩
theorem Tryz.cellsIntC : Tryz.prog.cellsOf 3 = 1 := by kernel_rfl
theorem opensC_int : Opens Tryz.prog 3 (rC cI i64ok) := opensC_i64 Tryz.underlying3
theorem opensC_boolT : Opens Tryz.prog 4 (rC cBo fun _ => True) := opensC_bool Tryz.underlying4
end Go.Proofs.YtokmkopihhnggaaGreatDoor
namespace Go.Proofs.YtokmkopihhnggaaGreatDoor
open Go Go.RowKit
def longT (t : List GPart) : Bool := decide (24 < t.length)
def idxT (ts : List (List GPart)) (k : Nat) : Int := match ts with
 | [] => -1
 | t :: ts => if longT t then (k : Int) else idxT ts (k + 1)
theorem idxT_ge (ts : List (List GPart)) (k : Nat) : decide (0 ≤ idxT ts k) = ts.any longT := by
 induction ts generalizing k with
 | nil => rfl
 | cons t ts ih =>
  simp only [idxT, List.any_cons]
  by_cases h : longT t = true
  ·simp [h]
  simp only [h, if_false]
  simpa using ih (k + 1)
def clos : C := .lit (.func (.func 120) #[] #[])
def F0 := And.intro zS (tf0)
theorem clos_A (t : List GPart) (h : t.length ≤ 1000000000000) : ACall Tryz.prog 120 [.one (.sh 5 t.length (flat cPart t))] (one (.bool (longT t))) := by
 unfold longT
 cases hl : decide (24 < t.length)
 ·have hI : ¬ (24 : Int) < (t.length : Int) := by have := of_decide_eq_false hl; omega
  refine acall_of Tryz.func120 rfl (by decide) (N := 6) rfl (by simp) (R := [.tmp 2]) rfl fun en k0 => ?_
  refine awN ?_
  simp only [(id F0), seval]
  refine awN ?_
  simp only [(id F0), seval, hI]
  refine awX ?_
  simp only [(id F0), seval]
 have hI : (24 : Int) < (t.length : Int) := by have := of_decide_eq_true hl; omega
 refine acall_of Tryz.func120 rfl (by decide) (N := 6) rfl (by simp) (R := [.tmp 2]) rfl fun en k0 => ?_
 refine awN ?_
 simp only [(id F0), seval]
 refine awN ?_
 simp only [(id F0), seval, hI]
 refine awX ?_
 simp only [(id F0), seval]
def F1 := And.intro zS (And.intro tf1 (And.intro tf2 (tf3)))
theorem IndexFunc_A (ts : List (List GPart)) (hn : ts.length ≤ 1000000000000) (ht : ∀ t ∈ ts, t.length ≤ 1000000000000) :
  ACall Tryz.prog 158 [.one (.sh 1 ts.length (flat cTier ts)), .one clos] (one (.int .i64 (idxT ts 0))) := by
 refine acall_of Tryz.func158 rfl (by decide) (N := 19) rfl (by simp) (R := [.tmp 4]) rfl fun en k0 => ?_
 refine awN ?_
 simp only [(id F1), seval]
 refine awN ?_
 simp only [(id F1), seval]
 refine awp_keep [0, 1, 7, 8] [] ?_
 simp only [Later, (id F1), seval]
 repeat' first|apply awS|apply awB
 refine awp_loopw (fun n st => ∃ k nx, k ≤ ts.length ∧ n = ts.length - k ∧ idxT (ts.drop k) k = idxT ts 0 ∧ st = ⟨mkT [(0, .val (.one (.sh 1 ts.length (flat cTier ts)))), (1, .val (.one clos)), (7, one (.int .i64 ts.length)), (8, one (.int .i64 k))], mkH [], nx, 0⟩) ts.length ⟨0, _, by omega, by omega, rfl, rfl⟩ ?_
 rintro n st ⟨k, nx, hk, rfl, hL, rfl⟩
 by_cases hlt : k < ts.length
 ·have hI : (k : Int) < (ts.length : Int) := by omega
  have hat := flat_at cTier_len ts k hlt
  rw [List.drop_eq_getElem_cons hlt] at hL
  have hm := ht ts[k] (List.getElem_mem hlt)
  rw [Nat.mul_one] at hat
  generalize ts[k] = t at *
  have hC := clos_A t hm
  simp only [idxT] at hL
  cases hlo : longT t
  ·rw [hlo] at hL hC
   refine awN ?_
   simp only [(id F1), seval, hI]
   refine awT ?_
   refine awK ?_
   simp only [(id F1), seval]
   refine awN ?_
   simp only [(id F1), seval]
   refine awN ?_
   simp only [(id F1), seval, hat, cTier, clos]
   repeat refine ob ?_
   refine ⟨flat_pure cPart_pure t, _, hC, rfl, ?_⟩
   simp only [Later, (id F1), seval]
   refine awF ?_
   refine awK ?_
   simp only [(id F1), seval]
   refine awN ?_
   simp only [(id F1), seval]
   repeat refine ob ?_
   refine ⟨_, wk_keep [0, 1, 7, 8] [], ts.length - (k + 1), by omega, k + 1, nx, by omega, rfl, ?_, ?_⟩
   ·simpa using hL
   simp only [(id F1), seval]
   try rfl
  rw [hlo] at hL hC
  simp only [if_true] at hL
  refine awN ?_
  simp only [(id F1), seval, hI]
  refine awT ?_
  refine awK ?_
  simp only [(id F1), seval]
  refine awN ?_
  simp only [(id F1), seval]
  refine awN ?_
  simp only [(id F1), seval, hat, cTier, clos]
  repeat refine ob ?_
  refine ⟨flat_pure cPart_pure t, _, hC, rfl, ?_⟩
  simp only [Later, (id F1), seval]
  refine awT ?_
  refine awN ?_
  simp only [(id F1), seval]
  refine awX ?_
  simp only [(id F1), seval, ← hL]
 obtain rfl : k = ts.length := by omega
 have hI : ¬ (ts.length : Int) < (ts.length : Int) := by omega
 rw [List.drop_length] at hL
 simp only [idxT] at hL
 refine awN ?_
 simp only [(id F1), seval, hI]
 refine awF ?_
 refine awQ ?_
 simp only [(id F1), seval]
 refine awN ?_
 simp only [(id F1), seval]
 refine awX ?_
 simp only [(id F1), seval, ← hL]
theorem ContainsFunc_A (ts : List (List GPart)) (hn : ts.length ≤ 1000000000000) (ht : ∀ t ∈ ts, t.length ≤ 1000000000000) :
  ACall Tryz.prog 119 [.one (.sh 1 ts.length (flat cTier ts)), .one clos] (one (.bool (ts.any longT))) := by
 have hI := IndexFunc_A ts hn ht
 rw [← idxT_ge ts 0]
 refine acall_of Tryz.func119 rfl (by decide) (N := 9) rfl (by simp) (R := [.tmp 4]) rfl fun en k0 => ?_
 refine awN ?_
 simp only [(id zS), seval]
 refine awN ?_
 simp only [(id zS), seval, clos]
 refine ⟨flat_pure cTier_pure ts, _, hI, rfl, ?_⟩
 simp only [Later, (id zS), seval]
 refine awX ?_
 simp only [(id zS), seval]
theorem awp_cutA {P : Program} {e : En} {k0 : Kx} {N : Nat} {st : St} {Q : Exit → St → Prop} {x y : Code} (M : St → Prop) (h : Awp P e k0 N x (Athen (fun st' => ∃ st2, Wk e k0 N st' st2 ∧ M st2) Q) st) (h2 : ∀ st2, M st2 → Awp P e k0 N y Q st2) : Awp P e k0 N x (Athen (Awp P e k0 N y Q) Q) st := by
 refine awp_mono h fun ex st' hq => ?_
 cases ex with
 | normal =>
  obtain ⟨st2, h1, h3⟩ := hq
  exact awp_wk h1 (h2 st2 h3)
 | _ => exact hq
def F2 := And.intro zS (And.intro tf0 (And.intro tf4 (tf5)))
theorem Grow_I (m nx0 : Nat) (hm : m ≤ 1000000000000) : ACallI Tryz.prog 159 [.one (.lit (.slice none 0 0)), .one (.lit (.int .i64 m))] (fun _ => none) nx0
      (fun res H' nx' => ∃ s, res = .val (.one (.own 33 s 0 5)) ∧ H' = up (fun _ => none) 33 (some ⟨s, 46, 5, 0, []⟩) ∧ nx' = s + 1) := by
  have n1 : ¬ (m : Int) < 0 := by omega
  have n2 : ((0 : Nat) : Int) - ((0 : Nat) : Int) = 0 := by omega
  have n3 : (m : Int) - 0 = m := by omega
  refine acallI_of 8 Tryz.func159 rfl (by decide) (N := 27) rfl (by simp) (Rl := [.tmp 4]) rfl fun en k0 => ?_
  refine awN ?_
  simp only [(id F2), seval]
  refine awN ?_
  simp only [(id F2), seval, n1]
  refine awF ?_
  refine awK ?_
  simp only [(id F2), seval]
  refine awN ?_
  simp only [(id F2), seval, n2, n3]
  repeat refine ob ?_
  by_cases h0 : 0 < m
  · have hI : (0 : Int) < (m : Int) := by omega
    refine awN ?_
    simp only [(id F2), seval, hI]
    refine awT ?_
    refine awN ?_
    simp only [(id F2), seval]
    repeat refine ob ?_
    refine awp_keep [0] [33] ?_
    simp only [Later, (id F2), seval]
    refine awN ?_
    simp only [(id F2), seval]
    refine awX ?_
    simp only [(id F2), seval]
    exact ⟨_, rfl, rfl, rfl⟩
  have hI : ¬ (0 : Int) < (m : Int) := by omega
  refine awN ?_
  simp only [(id F2), seval, hI]
  refine awF ?_
  refine awK ?_
  simp only [(id F2), seval]
  refine awN ?_
  simp only [(id F2), seval]
  repeat' first|apply awS|apply awB
  refine awp_keep [4] [] ?_
  refine awp_nil 4 33 46 5 (by decide) (by rfl) ?_
  refine awX ?_
  simp only [(id F2), seval]
  exact ⟨_, rfl, rfl, rfl⟩
def F3 := And.intro zS (And.intro tf1 (And.intro tf2 (And.intro tf0 (And.intro tf3 (tf5)))))
theorem Concat_A (ts : List (List GPart)) (hn : ts.length ≤ 1000000000000) (ht : ts.flatten.length ≤ 1000000000000) :
  ACall Tryz.prog 121 [.one (.sh 1 ts.length (flat cTier ts))] (.val (.one (.sh 5 ts.flatten.length (flat cPart ts.flatten)))) := by
 refine acall_of Tryz.func121 rfl (by decide) (N := 36) rfl (by simp) (R := [.tmp 2]) rfl fun en k0 => ?_
 refine awN ?_
 simp only [(id F3), seval]
 refine awN ?_
 simp only [(id F3), seval]
 refine awN ?_
 simp only [(id F3), seval]
 refine awp_keep [0, 3, 9, 10, 11] [] ?_
 simp only [Later, (id F3), seval]
 refine awp_cutA (M := fun st => ∃ nx, st = ⟨mkT [(0, .val (.one (.sh 1 ts.length (flat cTier ts)))), (3, one (.int .i64 (ts.flatten.length : Int)))], fun _ => none, nx, 0⟩) ?_ ?_
 ·
  repeat' first|apply awS|apply awB
  refine awp_loopw (fun n st => ∃ k nx D, k ≤ ts.length ∧ n = ts.length - k ∧ D ++ (ts.drop k).flatten = ts.flatten ∧ st = ⟨mkT [(0, .val (.one (.sh 1 ts.length (flat cTier ts)))), (3, one (.int .i64 (D.length : Int))), (9, .val (.one (.sh 1 ts.length (flat cTier ts)))), (10, one (.int .i64 ts.length)), (11, one (.int .i64 k))], mkH [], nx, 0⟩) ts.length ⟨0, _, [], by omega, by omega, rfl, rfl⟩ ?_
  rintro n st ⟨k, nx, D, hk, rfl, hD, rfl⟩
  by_cases hlt : k < ts.length
  ·
   have hI : (k : Int) < (ts.length : Int) := by omega
   have hat := flat_at cTier_len ts k hlt
   rw [List.drop_eq_getElem_cons hlt, List.flatten_cons] at hD
   rw [Nat.mul_one] at hat
   generalize ts[k] = t at *
   have hB := congrArg List.length hD
   simp only [List.length_append] at hB
   have hI2 : ¬ (D.length : Int) + (t.length : Int) < 0 := by omega
   refine awN ?_
   simp only [(id F3), seval, hI]
   refine awT ?_
   refine awK ?_
   simp only [(id F3), seval]
   refine awN ?_
   simp only [(id F3), seval, hat, cTier]
   repeat refine ob ?_
   refine awN ?_
   simp only [(id F3), seval]
   repeat refine ob ?_
   refine awN ?_
   simp only [(id F3), seval, hI2]
   refine awF ?_
   refine awK ?_
   simp only [(id F3), seval]
   refine awN ?_
   simp only [(id F3), seval]
   repeat refine ob ?_
   refine ⟨_, wk_keep [0, 3, 9, 10, 11] [], ts.length - (k + 1), by omega, k + 1, nx, D ++ t, by omega, rfl, ?_, ?_⟩
   ·
    rw [List.append_assoc]; exact hD
   simp only [(id F3), seval, List.length_append, Int.natCast_add]
   try rfl
  obtain rfl : k = ts.length := by omega
  have hI : ¬ (ts.length : Int) < (ts.length : Int) := by omega
  rw [List.drop_length, List.flatten_nil, List.append_nil] at hD
  refine awN ?_
  simp only [(id F3), seval, hI]
  refine awF ?_
  refine awQ ?_
  simp only [(id F3), seval]
  refine ⟨_, wk_keep [0, 3] [], nx, ?_⟩
  subst hD
  simp only [(id F3), seval]
 rintro st ⟨nx, rfl⟩
 refine awR [24] [none, none, none] ?_
 simp only [(id F3), seval]
 refine ⟨_, Grow_I ts.flatten.length nx ht, ?_⟩
 rintro res H nx ⟨s, rfl, rfl, rfl⟩
 simp only [(id F3), seval]
 refine awN ?_
 simp only [(id F3), seval]
 refine awp_keep [6, 25, 26, 27] [33] ?_
 simp only [Later, (id F3), seval]
 repeat' first|apply awS|apply awB
 refine awp_loopw (fun n st => ∃ k nx s D, k ≤ ts.length ∧ n = ts.length - k ∧ D ++ (ts.drop k).flatten = ts.flatten ∧ st = ⟨mkT [(6, .val (.one (.own 33 s D.length 5))), (25, .val (.one (.sh 1 ts.length (flat cTier ts)))), (26, one (.int .i64 ts.length)), (27, one (.int .i64 k))], mkH [(33, ⟨s, 46, 5, D.length, flat cPart D⟩)], nx, 0⟩) ts.length ⟨0, _, s, [], by omega, by omega, rfl, rfl⟩ ?_
 rintro n st ⟨k, nx, s, D, hk, rfl, hD, rfl⟩
 by_cases hlt : k < ts.length
 ·
  have hI : (k : Int) < (ts.length : Int) := by omega
  have hat := flat_at cTier_len ts k hlt
  rw [List.drop_eq_getElem_cons hlt, List.flatten_cons] at hD
  rw [Nat.mul_one] at hat
  generalize ts[k] = t at *
  have hB := congrArg List.length hD
  simp only [List.length_append] at hB
  refine awN ?_
  simp only [(id F3), seval, hI]
  refine awT ?_
  refine awK ?_
  simp only [(id F3), seval]
  refine awN ?_
  simp only [(id F3), seval, hat, cTier]
  repeat refine ob ?_
  refine awN ?_
  simp only [(id F3), seval]
  repeat refine ob ?_
  refine awN ?_
  simp only [(id F3), seval]
  repeat refine ob ?_
  refine ⟨_, wk_keep [6, 25, 26, 27] [33], ts.length - (k + 1), by omega, k + 1, nx + 1, nx, D ++ t, by omega, rfl, ?_, ?_⟩
  ·
   rw [List.append_assoc]; exact hD
  simp only [(id F3), seval, List.length_append, Int.natCast_add, flat_append]
  try rfl
 obtain rfl : k = ts.length := by omega
 have hI : ¬ (ts.length : Int) < (ts.length : Int) := by omega
 rw [List.drop_length, List.flatten_nil, List.append_nil] at hD
 subst hD
 refine awN ?_
 simp only [(id F3), seval, hI]
 refine awF ?_
 refine awQ ?_
 simp only [(id F3), seval]
 refine awN ?_
 simp only [(id F3), seval]
 refine awX ?_
 simp only [(id F3), seval]
 exact flat_pure cPart_pure _
end Go.Proofs.YtokmkopihhnggaaGreatDoor
section
/- Contracts of the kit's shelf, laid at this translation by the kit's own tool: slices.Sort and slices.Compact at []int. -/
namespace Go.Proofs
open Go.Shelf
def Tryz.lays189_ren : Go.Shelf.Ren := ⟨fun | 189 => 122 | 125 => 161 | 257 => 160 | 128 => 203 | 129 => 204 | 294 => 194 | 295 => 195 | 296 => 196 | 297 => 197 | 298 => 198 | 299 => 199 | 216 => 200 | 300 => 201 | 301 => 202 | 328 => 225 | 329 => 226 | 330 => 227 | 331 => 228 | 332 => 229 | 215 => 230 | 343 => 236 | n => n, fun | 28 => 58 | 3 => 3 | 46 => 115 | 0 => 0 | 51 => 206 | 53 => 165 | 4 => 4 | 183 => 256 | 182 => 255 | 131 => 261 | 5 => 5 | 9 => 9 | 218 => 284 | 222 => 288 | 228 => 297 | 229 => 298 | n => n, fun | n => n⟩
theorem Tryz.lays189 : Go.Proofs.Lays.n189 Tryz.prog Tryz.lays189_ren := {
 mixed := by kernel_rfl
 f125 := Tryz.func161.trans (congrArg some (by kernel_rfl))
 f128 := Tryz.func203.trans (congrArg some (by kernel_rfl))
 f129 := Tryz.func204.trans (congrArg some (by kernel_rfl))
 f189 := Tryz.func122.trans (congrArg some (by kernel_rfl))
 f215 := Tryz.func230.trans (congrArg some (by kernel_rfl))
 f216 := Tryz.func200.trans (congrArg some (by kernel_rfl))
 f257 := Tryz.func160.trans (congrArg some (by kernel_rfl))
 f294 := Tryz.func194.trans (congrArg some (by kernel_rfl))
 f295 := Tryz.func195.trans (congrArg some (by kernel_rfl))
 f296 := Tryz.func196.trans (congrArg some (by kernel_rfl))
 f297 := Tryz.func197.trans (congrArg some (by kernel_rfl))
 f298 := Tryz.func198.trans (congrArg some (by kernel_rfl))
 f299 := Tryz.func199.trans (congrArg some (by kernel_rfl))
 f300 := Tryz.func201.trans (congrArg some (by kernel_rfl))
 f301 := Tryz.func202.trans (congrArg some (by kernel_rfl))
 f328 := Tryz.func225.trans (congrArg some (by kernel_rfl))
 f329 := Tryz.func226.trans (congrArg some (by kernel_rfl))
 f330 := Tryz.func227.trans (congrArg some (by kernel_rfl))
 f331 := Tryz.func228.trans (congrArg some (by kernel_rfl))
 f332 := Tryz.func229.trans (congrArg some (by kernel_rfl))
 f343 := Tryz.func236.trans (congrArg some (by kernel_rfl))
 t0 := Tryz.underlying0
 a0 := Tryz.isAgg0
 z0 := Tryz.sizeOf0
 v0 := Tryz.zeroValue0
 t3 := Tryz.underlying3
 a3 := Tryz.isAgg3
 z3 := Tryz.sizeOf3
 v3 := Tryz.zeroValue3
 t4 := Tryz.underlying4
 a4 := Tryz.isAgg4
 z4 := Tryz.sizeOf4
 v4 := Tryz.zeroValue4
 t5 := Tryz.underlying5
 a5 := Tryz.isAgg5
 z5 := Tryz.sizeOf5
 v5 := Tryz.zeroValue5
 t9 := Tryz.underlying9
 a9 := Tryz.isAgg9
 z9 := Tryz.sizeOf9
 v9 := Tryz.zeroValue9
 t28 := Tryz.underlying58
 a28 := Tryz.isAgg58
 z28 := Tryz.sizeOf58
 v28 := Tryz.zeroValue58
 t46 := Tryz.underlying115
 a46 := Tryz.isAgg115
 z46 := Tryz.sizeOf115
 v46 := Tryz.zeroValue115
 t51 := Tryz.underlying206
 a51 := Tryz.isAgg206
 z51 := Tryz.sizeOf206
 v51 := Tryz.zeroValue206
 t53 := Tryz.underlying165
 a53 := Tryz.isAgg165
 z53 := Tryz.sizeOf165
 v53 := Tryz.zeroValue165
 t131 := Tryz.underlying261
 a131 := Tryz.isAgg261
 z131 := Tryz.sizeOf261
 v131 := Tryz.zeroValue261
 t182 := Tryz.underlying255
 a182 := Tryz.isAgg255
 z182 := Tryz.sizeOf255
 v182 := Tryz.zeroValue255
 t183 := Tryz.underlying256
 a183 := Tryz.isAgg256
 z183 := Tryz.sizeOf256
 v183 := Tryz.zeroValue256
 t218 := Tryz.underlying284
 a218 := Tryz.isAgg284
 z218 := Tryz.sizeOf284
 v218 := Tryz.zeroValue284
 t222 := Tryz.underlying288
 a222 := Tryz.isAgg288
 z222 := Tryz.sizeOf288
 v222 := Tryz.zeroValue288
 t228 := Tryz.underlying297
 a228 := Tryz.isAgg297
 z228 := Tryz.sizeOf297
 v228 := Tryz.zeroValue297
 t229 := Tryz.underlying298
 a229 := Tryz.isAgg298
 z229 := Tryz.sizeOf298
 v229 := Tryz.zeroValue298 }
open Go.Sort Go.RowKit in
theorem Tryz.slices_Sort_int (blk off cap : Nat) (zs : List Int) (w : World) (hH : Holds (Value.int .i64) w blk off zs.toArray) (hblk : blk < w.heap.size) (hsz : zs.length < 4611686018427387904) :
  Calls Tryz.prog 122 #[.slice (some ⟨blk, off, none⟩) zs.length cap] w fun e w' =>
   e = .returned (.tuple #[]) ∧ ∃ n os, w' = grow (putRow (Value.int .i64) (Sort.ahead w n) blk off (zs.mergeSort fun x y => decide (x ≤ y)).toArray) os := Any.slices_Sort_int Tryz.lays189 blk off cap zs w hH hblk hsz
def Tryz.laysNm220_ren : Go.Shelf.Ren := ⟨fun | 20 => 123 | n => n, fun | 22 => 58 | 3 => 3 | 4 => 4 | 0 => 0 | n => n, fun | n => n⟩
theorem Tryz.laysNm220 : Go.Proofs.Lays2.n20 Tryz.prog Tryz.laysNm220_ren := {
 mixed := by kernel_rfl
 f20 := Tryz.func123.trans (congrArg some (by kernel_rfl))
 t0 := Tryz.underlying0
 a0 := Tryz.isAgg0
 z0 := Tryz.sizeOf0
 v0 := Tryz.zeroValue0
 t3 := Tryz.underlying3
 a3 := Tryz.isAgg3
 z3 := Tryz.sizeOf3
 v3 := Tryz.zeroValue3
 t4 := Tryz.underlying4
 a4 := Tryz.isAgg4
 z4 := Tryz.sizeOf4
 v4 := Tryz.zeroValue4
 t22 := Tryz.underlying58
 a22 := Tryz.isAgg58
 z22 := Tryz.sizeOf58
 v22 := Tryz.zeroValue58
 i3 := by kernel_rfl }
open Go.RowKit Go.Lib Go.Sort in
theorem Tryz.slices_Compact_int (blk off cap : Nat) (zs : List Int) (w : World) (hH : Holds (Value.int .i64) w blk off zs.toArray) (hsz : zs.length ≤ 9223372036854775807) (hcap : zs.length ≤ cap) :
  Calls Tryz.prog 123 #[.slice (some ⟨blk, off, none⟩) zs.length cap] w fun e w' => e = .returned (.slice (some ⟨blk, off, none⟩) (Lib.compact zs).length cap) ∧ ∃ q, w' = putRow (Value.int .i64) (Sort.ahead w q) blk off (Lib.compact zs ++ List.replicate (zs.length - (Lib.compact zs).length) 0).toArray := Any.slices_Compact_int Tryz.laysNm220 blk off cap zs w hH hsz hcap
open Go.RowKit Go.Lib Go.Sort in
theorem Tryz.slices_Compact_int_empty (a : Option Addr) (cap : Nat) (w : World) :
  Calls Tryz.prog 123 #[.slice a 0 cap] w fun e w' => e = .returned (.slice a 0 cap) ∧ w' = w := Any.slices_Compact_int_empty Tryz.laysNm220 a cap w
open Go.RowKit Go.Sort in
theorem Tryz.slices_Sort_int_none (p : Option Addr) (cap : Nat) (w : World) :
  Calls Tryz.prog 122 #[.slice p 0 cap] w fun e w' => e = .returned (.tuple #[]) ∧ w' = w := Any.slices_Sort_int_none Tryz.lays189 p cap w
end Go.Proofs
end
namespace Go.Proofs.YtokmkopihhnggaaGreatDoor
open Go Go.RowKit
def sorted (zs : List Int) : List Int := zs.mergeSort fun x y => decide (x ≤ y)
theorem sorted_length (zs : List Int) : (sorted zs).length = zs.length := by simp [sorted]
theorem denVs_cI {κ : Kx} : ∀ {xs : List Value} {zs : List Int}, denVs κ xs (flat cI zs) → xs = zs.map (Value.int .i64)
 | [], [], _ => rfl
 | x :: xs, z :: zs, h => by
  rw [flat_cons] at h
  simp only [cI, List.cons_append, List.nil_append, denVs, den] at h
  rw [h.1.1, denVs_cI h.2, List.map_cons]
 | [], z :: zs, h => by rw [flat_cons] at h; exact h.elim
 | x :: xs, [], h => h.elim
theorem cI_denVs {κ : Kx} : ∀ {zs : List Int}, denVs κ (zs.map (Value.int .i64)) (flat cI zs)
 | [] => trivial
 | z :: zs => by
  rw [flat_cons]
  simp only [cI, List.cons_append, List.nil_append, denVs, den, List.map_cons]
  exact ⟨⟨trivial, rfl⟩, cI_denVs⟩
theorem Sort_I (H : Hp) (nx nm s : Nat) (E : TypeId) (zs : List Int) (hH : H nm = some ⟨s, E, 1, zs.length, flat cI zs⟩) (hn : zs.length < 4611686018427387904) :
    ACallI Tryz.prog 122 [.one (.own nm s zs.length 1)] H nx (fun res H' nx' => res = .tup [] ∧ H' = up H nm (some ⟨s, E, 1, zs.length, flat cI (sorted zs)⟩) ∧ nx' = nx) := by
  refine ⟨⟨_, Tryz.func122, by decide, by rfl⟩, fun e σ w vs hW hvs => ?_⟩
  match vs, hvs with
  | [v], ⟨hv, _⟩ =>
    simp only [den1, den] at hv
    obtain ⟨f1, f2, f3⟩ := hv.2.2 _ hH rfl
    have hv' : v = σ nm := f1
    subst hv'
    obtain ⟨_, g2, xs, g3, g4⟩ := hW.rowOf hH (.inl (by simp))
    have hxs := denVs_cI g4
    subst hxs
    have fin : ∀ w', w.grownBy w' (σ nm).ownBlock → w'.ownsRow e.w0.heap.size E 1 (σ nm) zs.length ((sorted zs).map (Value.int .i64)) →
        ∃ v res H' nx' σ', Ending.returned (.tuple #[]) = .returned v ∧ RW e H' nx' σ' w' ∧ Ext (kx e H nx σ w) (kx e H' nx' σ' w') ∧ denA (kx e H' nx' σ' w') v res ∧ (res = .tup [] ∧ H' = up H nm (some ⟨s, E, 1, zs.length, flat cI (sorted zs)⟩) ∧ nx' = nx) := fun w' h1 h2 => by
      obtain ⟨k1, k2⟩ := hW.upd hH h1 (cs := flat cI (sorted zs)) (by simp) (by simp [flat_length cI_len, sorted_length]) h2 cI_denVs
      exact ⟨_, .tup [], _, nx, σ, rfl, k1, k2, ⟨[], rfl, trivial⟩, rfl, rfl, rfl⟩
    rcases g3.2 with ⟨q2, q1⟩ | ⟨g, cap, cur, q1, q2, q3, q4, q5, q6, q7⟩
    · have hz : zs = [] := List.eq_nil_of_length_eq_zero q1
      subst hz
      show Calls _ _ #[σ nm] w _
      rw [q2]
      refine (Tryz.slices_Sort_int_none none 0 w).mono ?_
      rintro ex w' ⟨rfl, rfl⟩
      refine fin _ (by rw [q2]; exact ⟨rfl, rfl, rfl, Nat.le_refl _, fun _ _ _ => rfl⟩) ?_
      have hs0 : sorted [] = [] := by simp [sorted]
      rw [q2, hs0]; exact World.ownsRow_nil _ _ _ _
    have q7' : cur.toList.take zs.length = zs.map (Value.int .i64) := by simpa using q7
    show Calls _ _ #[σ nm] w _
    rw [q1]
    refine (Tryz.slices_Sort_int g 0 cap zs w (holds_of_blockI q3 q7') ?_ hn).mono ?_
    · exact (Array.getElem?_eq_some_iff.1 q3).1
    rintro ex w' ⟨rfl, n, os, rfl⟩
    refine fin _ (by rw [q1]; exact grownBy_sortedI _) ?_
    rw [q1]
    exact ownsRow_sortedI (sorted_length zs) q2 q3 q4 q5 q6
theorem Compact_I (d : Nat) (H : Hp) (nx nm s : Nat) (E : TypeId) (zs : List Int) (hH : H nm = some ⟨s, E, 1, zs.length, flat cI zs⟩) (hn : zs.length < 4611686018427387904) :
    ACallI Tryz.prog 123 [.one (.own nm s zs.length 1)] H nx (fun res H' nx' => res = .val (.one (.own d nx (Lib.compact zs).length 1)) ∧ H' = up (up H nm none) d (some ⟨nx, E, 1, (Lib.compact zs).length, flat cI (Lib.compact zs)⟩) ∧ nx' = nx + 1) := by
  refine ⟨⟨_, Tryz.func123, by decide, by rfl⟩, fun e σ w vs hW hvs => ?_⟩
  match vs, hvs with
  | [v], ⟨hv, _⟩ =>
    simp only [den1, den] at hv
    obtain ⟨f1, f2, f3⟩ := hv.2.2 _ hH rfl
    have hv' : v = σ nm := f1
    subst hv'
    obtain ⟨_, g2, xs, g3, g4⟩ := hW.rowOf hH (.inl (by simp))
    have hxs := denVs_cI g4
    subst hxs
    have hle := Lib.compact_length_le zs
    have fin : ∀ w' v' row, w.grownBy w' row → (∀ r, row = some r → obk (σ nm) = some r) → (∀ r, obk v' = some r → obk (σ nm) = some r) → w'.ownsRow e.w0.heap.size E 1 v' (Lib.compact zs).length ((Lib.compact zs).map (Value.int .i64)) →
        ∃ v res H' nx' σ', Ending.returned v' = .returned v ∧ RW e H' nx' σ' w' ∧ Ext (kx e H nx σ w) (kx e H' nx' σ' w') ∧ denA (kx e H' nx' σ' w') v res ∧ (res = .val (.one (.own d nx (Lib.compact zs).length 1)) ∧ H' = up (up H nm none) d (some ⟨nx, E, 1, (Lib.compact zs).length, flat cI (Lib.compact zs)⟩) ∧ nx' = nx + 1) := fun w' v' row h1 h2 h3 h4 => by
      obtain ⟨k1, k2⟩ := hW.new (nm0 := nm) (d := d) (row := row) h1 (B' := ⟨nx, E, 1, (Lib.compact zs).length, flat cI (Lib.compact zs)⟩) (v' := v') rfl (by simp) (by simp [flat_length cI_len]) (fun r hr => ⟨h2 r hr, _, hH⟩) (fun r hr => .inr ⟨h3 r hr, _, hH⟩) h4 cI_denVs
      have ho : v'.oneCell' = true := by rcases h4.2 with ⟨h, _⟩ | ⟨g, cap, cur, h, _⟩ <;> rw [h] <;> rfl
      exact ⟨_, .val (.one (.own d nx _ 1)), _, _, _, rfl, k1, k2, den_new_own d σ _ ho, rfl, rfl, rfl⟩
    rcases g3.2 with ⟨q2, q1⟩ | ⟨g, cap, cur, q1, q2, q3, q4, q5, q6, q7⟩
    · have hz : zs = [] := List.eq_nil_of_length_eq_zero q1
      subst hz
      show Calls _ _ #[σ nm] w _
      rw [q2]
      refine (Tryz.slices_Compact_int_empty none 0 w).mono ?_
      rintro ex w' ⟨rfl, rfl⟩
      exact fin _ _ none ⟨rfl, rfl, rfl, Nat.le_refl _, fun _ _ _ => rfl⟩ (by simp) (by simp [obk]) (World.ownsRow_nil _ _ _ _)
    have q7' : cur.toList.take zs.length = zs.map (Value.int .i64) := by simpa using q7
    show Calls _ _ #[σ nm] w _
    rw [q1]
    have q4' : zs.length ≤ cap := q4
    refine (Tryz.slices_Compact_int g 0 cap zs w (holds_of_blockI q3 q7') (by omega) q4').mono ?_
    rintro ex w' ⟨rfl, q, rfl⟩
    have hgr := grownBy_sortedI (w := w) (g := g) (n := q) (os := #[]) (Lib.compact zs ++ List.replicate (zs.length - (Lib.compact zs).length) 0).toArray
    have hp := heap_sortedI (w := w) (n := q) (os := #[]) (Lib.compact zs ++ List.replicate (zs.length - (Lib.compact zs).length) 0).toArray q3
    rw [Sort.grow_empty] at hgr hp
    refine fin _ _ (some g) hgr (fun r hr => ?_) (fun r hr => ?_) ⟨by simp, .inr ⟨g, cap, _, rfl, q2, hp, by omega, q5, ?_, ?_⟩⟩
    · obtain rfl := Option.some.inj hr; rw [q1]; rfl
    · rw [q1]; exact hr
    · simp [Sort.putCells]; simpa using q6
    have hcs : zs.length ≤ cur.size := by
      have : cur.size = cap * 1 := q6
      omega
    have hl : (Lib.compact zs ++ List.replicate (zs.length - (Lib.compact zs).length) 0).length = zs.length := by simp; omega
    have := take_putCellsI cur (Lib.compact zs ++ List.replicate (zs.length - (Lib.compact zs).length) 0) (by rw [hl]; exact hcs)
    rw [hl] at this
    rw [Nat.mul_one]
    have h2 : List.take (Lib.compact zs).length (List.take zs.length (Sort.putCells (Value.int .i64) 0 (Lib.compact zs ++ List.replicate (zs.length - (Lib.compact zs).length) 0).toArray cur).toList) = (Lib.compact zs).map (Value.int .i64) := by
      rw [this, List.map_append, List.take_left' (by simp)]
    rwa [List.take_take, Nat.min_eq_left hle] at h2
def idsOf : List GPart → List Int
 | [] => []
 | p :: l => if p.claim = -1 then idsOf l else p.claim :: idsOf l
def mem (a : GAgr) : List Int := Lib.compact (sorted (idsOf a.flatten))
theorem Compact_I' (d : Nat) (H : Hp) (nx nm s n : Nat) (E : TypeId) (zs : List Int) (hnz : n = zs.length) (hH : H nm = some ⟨s, E, 1, n, flat cI zs⟩) (hn : zs.length < 4611686018427387904) :
  ACallI Tryz.prog 123 [.one (.own nm s n 1)] H nx (fun res H' nx' => res = .val (.one (.own d nx (Lib.compact zs).length 1)) ∧ H' = up (up H nm none) d (some ⟨nx, E, 1, (Lib.compact zs).length, flat cI (Lib.compact zs)⟩) ∧ nx' = nx + 1) := by
 subst hnz
 exact Compact_I d H nx nm s E zs hH hn
def F4 := And.intro zS (And.intro tf6 (And.intro tf0 (And.intro tf7 (And.intro tf8 (And.intro tf9 (And.intro tf10 (And.intro tf11 (And.intro tf12 (And.intro tf5 (tf13))))))))))
theorem members_A (a : GAgr) (h1 : a.length ≤ 1000000000000) (h2 : a.flatten.length ≤ 1000000000000) :
  ACall Tryz.prog 76 [.agg (cAgr a)] (.val (.one (.sh 1 (mem a).length (flat cI (mem a))))) := by
 have hC := Concat_A a h1 h2
 unfold mem
 refine acall_of Tryz.func76 rfl (by decide) (N := 27) rfl (by simp) (R := [.tmp 2]) rfl fun en k0 => ?_
 refine awN ?_
 simp only [(id F4), seval, cAgr]
 refine awN ?_
 simp only [(id F4), seval]
 refine awN ?_
 simp only [(id F4), seval, cAgr]
 refine ⟨flat_pure cTier_pure a, _, hC, by simp [pureCs, pureC, flat_pure cPart_pure], ?_⟩
 simp only [Later, (id F4), seval]
 refine awp_keep [3, 8, 9, 10] [] ?_
 simp only [Later, (id F4), seval]
 refine awp_nil 3 21 3 1 (by decide) (by rfl) ?_
 refine awp_keep [3, 8, 9, 10] [21] ?_
 simp only [Later, (id F4), seval]
 repeat' first|apply awS|apply awB
 refine awp_loopw (fun n st => ∃ k nx s D, k ≤ a.flatten.length ∧ n = a.flatten.length - k ∧ D.length ≤ k ∧ D ++ idsOf (a.flatten.drop k) = idsOf a.flatten ∧ st = ⟨mkT [(3, .val (.one (.own 21 s D.length 1))), (8, .val (.one (.sh 5 a.flatten.length (flat cPart a.flatten)))), (9, one (.int .i64 a.flatten.length)), (10, one (.int .i64 k))], mkH [(21, ⟨s, 3, 1, D.length, flat cI D⟩)], nx, 0⟩) a.flatten.length ⟨0, _, _, [], by omega, by omega, by simp, rfl, rfl⟩ ?_
 rintro n st ⟨k, nx, s, D, hk, rfl, hDl, hD, rfl⟩
 generalize a.flatten = l at *
 by_cases hlt : k < l.length
 ·
  have hI : (k : Int) < (l.length : Int) := by omega
  have hat := flat_at cPart_len l k hlt
  rw [List.drop_eq_getElem_cons hlt] at hD
  generalize l[k] = p at *
  simp only [idsOf] at hD
  by_cases hc : p.claim = -1
  ·
   repeat' first|apply awS|apply awB
   refine awN ?_
   simp only [(id F4), seval, hI]
   refine awT ?_
   refine awK ?_
   simp only [(id F4), seval]
   refine awN ?_
   simp only [(id F4), seval, hat, cPart]
   repeat refine ob ?_
   refine awN ?_
   simp only [(id F4), seval, hc]
   refine awF ?_
   refine awK ?_
   simp only [(id F4), seval]
   refine awN ?_
   simp only [(id F4), seval]
   repeat refine ob ?_
   refine ⟨_, wk_keep [3, 8, 9, 10] [21], l.length - (k + 1), by omega, k + 1, nx + 1, s, D, by omega, rfl, by omega, ?_, ?_⟩
   ·
    rw [if_pos hc] at hD; exact hD
   simp only [(id F4), seval]
   try rfl
  repeat' first|apply awS|apply awB
  refine awN ?_
  simp only [(id F4), seval, hI]
  refine awT ?_
  refine awK ?_
  simp only [(id F4), seval]
  refine awN ?_
  simp only [(id F4), seval, hat, cPart]
  repeat refine ob ?_
  refine awN ?_
  simp only [(id F4), seval, hc]
  refine awT ?_
  refine awN ?_
  simp only [(id F4), seval]
  repeat refine ob ?_
  refine awN ?_
  simp only [(id F4), seval]
  repeat refine ob ?_
  refine ⟨_, wk_keep [3, 8, 9, 10] [21], l.length - (k + 1), by omega, k + 1, nx + 3, nx + 2, D ++ [p.claim], by omega, rfl, by simp; omega, ?_, ?_⟩
  ·
   rw [if_neg hc] at hD; simpa using hD
  simp only [(id F4), seval, List.length_append, flat_append, flat_cons, flat_nil, cI]
  try rfl
 obtain rfl : k = l.length := by omega
 have hI : ¬ (l.length : Int) < (l.length : Int) := by omega
 rw [List.drop_length] at hD
 simp only [idsOf, List.append_nil] at hD
 subst hD
 refine awN ?_
 simp only [(id F4), seval, hI]
 refine awF ?_
 refine awQ ?_
 simp only [(id F4), seval]
 refine awR [24] [none, none] ?_
 simp only [(id F4), seval]
 refine ⟨_, Sort_I _ _ 21 s _ (idsOf l) (by rfl) (by omega), ?_⟩
 rintro res H nx ⟨rfl, rfl, rfl⟩
 simp only [(id F4), seval]
 refine awR [26] [none, none, none] ?_
 simp only [(id F4), seval]
 refine ⟨_, Compact_I' 26 _ _ 21 s _ _ (sorted (idsOf l)) (sorted_length _).symm (by rfl) (by rw [sorted_length]; omega), ?_⟩
 rintro res H nx ⟨rfl, rfl, rfl⟩
 simp only [(id F4), seval]
 refine awX ?_
 simp only [(id F4), seval]
 exact flat_pure cI_pure _
end Go.Proofs.YtokmkopihhnggaaGreatDoor
