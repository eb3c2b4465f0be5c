/- Readings of Go values as plain Lean data, stable while the call makes memory of its own. No program in sight. -/
import Derived.WalkKit
import Derived.WalkSpells
import Derived.WalkLawsBesides
set_option linter.unusedVariables false
set_option linter.unusedSimpArgs false
section
/- Readings of Go values as plain Lean data, stable while the call makes memory of its own. No program in sight. -/
namespace Go.Proofs.YtgmedcncbpdimaaDoor
open Go.RowKit

/-- Kept from the walk's simp, the statement as it stands. -/
theorem hid {p : Prop} (h : p) : Hid p := h

/-- A reading: in world w, with all blocks in S, the cells read as a. -/
abbrev CRep (α : Type) := World → (Nat → Prop) → List Value → α → Prop
abbrev LT (n : Nat) : Nat → Prop := fun b => b < n
/-- The blocks in S are as they were. -/
def Frame (S : Nat → Prop) (w w' : World) : Prop := ∀ b, S b → w'.heap[b]? = w.heap[b]?
theorem Frame.refl (S : Nat → Prop) (w : World) : Frame S w w := fun _ _ => rfl
theorem Frame.trans {S : Nat → Prop} {a b c : World} (h : Frame S a b) (k : Frame S b c) : Frame S a c := fun i hi => (k i hi).trans (h i hi)
theorem Frame.below {B : Nat} {w w' : World} (h : Below B w w') : Frame (LT B) w w' := fun b hb => h.block b hb
theorem Frame.mono {S T : Nat → Prop} {w w' : World} (h : Frame S w w') (hs : ∀ b, T b → S b) : Frame T w w' := fun b hb => h b (hs b hb)
theorem Frame.cell {S : Nat → Prop} {w w' : World} (h : Frame S w w') {p : Addr} (hp : S p.block) : w'.cell? p = w.cell? p := World.cell?_of_block (w := w) (h p.block hp)

/-- A reading that stays while the blocks of S stay. -/
def Stays {α : Type} (R : CRep α) : Prop := ∀ w w' S S' cs a, R w S cs a → Frame S w w' → (∀ b, S b → S' b) → R w' S' cs a
theorem Stays.below {α : Type} {R : CRep α} (hR : Stays R) {w w' : World} {B B' : Nat} {cs : List Value} {a : α} (h : R w (LT B) cs a) (hb : Below B w w') (hB : B ≤ B') : R w' (LT B') cs a :=
  hR _ _ _ _ _ _ h (Frame.below hb) fun b hb => Nat.lt_of_lt_of_le hb hB

structure GRat where
  neg : Bool
  num : ByteArray
  den : ByteArray
deriving DecidableEq, Inhabited

structure GOpt where
  amount : GRat
  rank : Int
deriving Inhabited

structure GDisp where
  est : Int
  cl : Int
  opts : List GOpt
deriving Inhabited

def i64ok (n : Int) : Prop := -9223372036854775808 ≤ n ∧ n ≤ 9223372036854775807

def rI64 : CRep Int := fun _ _ cs n => cs = [.int .i64 n] ∧ i64ok n
def rU8 : CRep Nat := fun _ _ cs n => cs = [.int .u8 n] ∧ n < 256
def rU16 : CRep Nat := fun _ _ cs n => cs = [.int .u16 n] ∧ n < 65536
def rU32 : CRep Nat := fun _ _ cs n => cs = [.int .u32 n] ∧ n < 4294967296
def rRat : CRep GRat := fun _ _ cs r => cs = [.bool r.neg, .string r.num, .string r.den] ∧ r.num.size ≤ maxLen ∧ r.den.size ≤ maxLen
def rOpt : CRep GOpt := fun _ _ cs o => cs = [.bool o.amount.neg, .string o.amount.num, .string o.amount.den, .int .i64 o.rank] ∧ o.amount.num.size ≤ maxLen ∧ o.amount.den.size ≤ maxLen ∧ i64ok o.rank

/-- The elements of a slice at block b from off on. -/
def rAt {α : Type} (sz : Nat) (R : CRep α) (w : World) (B : Nat → Prop) (b off : Nat) (l : List α) : Prop :=
  B b ∧ ∀ j (h : j < l.length), ∃ cs, cs.length = sz ∧ (∀ c, c < sz → w.cell? ⟨b, off + j * sz + c, none⟩ = cs[c]?) ∧ R w B cs l[j]

def rSlice {α : Type} (sz : Nat) (R : CRep α) : CRep (List α) := fun w B cs l =>
  ∃ a cap, cs = [.slice a l.length cap] ∧ l.length ≤ cap ∧ cap ≤ maxLen ∧ (a = none → cap = 0) ∧ (l = [] ∨ ∃ b off, a = some ⟨b, off, none⟩ ∧ rAt sz R w B b off l)

def rDisp : CRep GDisp := fun w B cs d => ∃ v, cs = [.int .i64 d.est, .int .i64 d.cl, v] ∧ i64ok d.est ∧ i64ok d.cl ∧ rSlice 4 rOpt w B [v] d.opts

theorem stays_pure {α : Type} {p : List Value → α → Prop} : Stays (fun _ _ cs a => p cs a) := fun _ _ _ _ _ _ h _ _ => h
theorem stays_rI64 : Stays rI64 := stays_pure
theorem stays_rU8 : Stays rU8 := stays_pure
theorem stays_rU16 : Stays rU16 := stays_pure
theorem stays_rU32 : Stays rU32 := stays_pure
theorem stays_rRat : Stays rRat := stays_pure
theorem stays_rOpt : Stays rOpt := stays_pure

theorem stays_rAt {α : Type} {sz : Nat} {R : CRep α} (hR : Stays R) {w w' : World} {S S' : Nat → Prop} {b off : Nat} {l : List α} (h : rAt sz R w S b off l) (hb : Frame S w w') (hB : ∀ b, S b → S' b) : rAt sz R w' S' b off l := by
  obtain ⟨hlt, h⟩ := h
  refine ⟨hB _ hlt, fun j hj => ?_⟩
  obtain ⟨cs, h1, h2, h3⟩ := h j hj
  exact ⟨cs, h1, fun c hc => by rw [hb.cell (p := ⟨b, off + j * sz + c, none⟩) hlt]; exact h2 c hc, hR _ _ _ _ _ _ h3 hb hB⟩

theorem stays_rSlice {α : Type} {sz : Nat} {R : CRep α} (hR : Stays R) : Stays (rSlice sz R) := by
  rintro w w' S S' cs l ⟨a, cap, rfl, h1, h2, h3, h4⟩ hb hB
  refine ⟨a, cap, rfl, h1, h2, h3, ?_⟩
  rcases h4 with h4 | ⟨b, off, rfl, h4⟩
  · exact .inl h4
  · exact .inr ⟨b, off, rfl, stays_rAt hR h4 hb hB⟩

theorem stays_rDisp : Stays rDisp := by
  rintro w w' S S' cs d ⟨v, rfl, h1, h2, h3⟩ hb hB
  exact ⟨v, rfl, h1, h2, stays_rSlice stays_rOpt _ _ _ _ _ _ h3 hb hB⟩

theorem len_le {α : Type} {l : List α} {cap : Nat} (h1 : l.length ≤ cap) (h2 : cap ≤ maxLen) : l.length ≤ 9223372036854775807 := by
  unfold maxLen at h2; omega

/-- One element of a slice, its reading at a later world. -/
theorem rAt.get {α : Type} {sz : Nat} {R : CRep α} (hR : Stays R) {w w' : World} {S : Nat → Prop} {b off : Nat} {l : List α} (h : rAt sz R w S b off l) (hb : Frame S w w') {j : Nat} (hj : j < l.length) :
    ∃ cs, cs.length = sz ∧ (∀ c, c < sz → w'.cell? ⟨b, off + j * sz + c, none⟩ = cs[c]?) ∧ R w' S cs l[j] := by
  obtain ⟨_, h⟩ := stays_rAt hR h hb (fun _ h => h)
  exact h j hj

theorem rAt.disp {w w' : World} {B b off : Nat} {l : List GDisp} (h : rAt 3 rDisp w (LT B) b off l) (hb : Below B w w') {j : Nat} (hj : j < l.length) :
    ∃ a cap, w'.cell? ⟨b, off + j * 3, none⟩ = some (.int .i64 l[j].est) ∧ w'.cell? ⟨b, off + j * 3 + 1, none⟩ = some (.int .i64 l[j].cl) ∧ w'.cell? ⟨b, off + j * 3 + 2, none⟩ = some (.slice a l[j].opts.length cap) ∧
      rSlice 4 rOpt w' (LT B) [.slice a l[j].opts.length cap] l[j].opts := by
  obtain ⟨cs, h1, h2, v, rfl, h3, h4, h5⟩ := h.get stays_rDisp (Frame.below hb) hj
  obtain ⟨a, cap, h6, h7⟩ := h5
  simp only [List.cons.injEq, and_true] at h6
  subst h6
  exact ⟨a, cap, h2 0 (by omega), h2 1 (by omega), h2 2 (by omega), ⟨a, cap, rfl, h7⟩⟩

theorem ret_int {k : IntKind} {a b : Int} (h : a = b) : Ending.returned (.int k a) = .returned (.int k b) := by rw [h]
theorem ret_bool {a b : Bool} (h : a = b) : Ending.returned (.bool a) = .returned (.bool b) := by rw [h]
theorem ret_str {a b : ByteArray} (h : a = b) : Ending.returned (.string a) = .returned (.string b) := by rw [h]
theorem _root_.Go.RowKit.Below.drewN {B : Nat} {a w : World} (h : Below B a w) (n : Nat) : Below B a (w.drewN n) := ⟨h.os, h.tape, h.output, h.size, h.block⟩
theorem _root_.Go.RowKit.Below.step {w a b : World} (h : Below w.heap.size w a) (h' : Below a.heap.size a b) : Below w.heap.size w b := h.trans (h'.mono h.size)

/-! ### Rows of the call's own -/

/-- Block g holds n cells, cell j being f j; nothing of it is frozen. -/
def Own (w : World) (g : Nat) (E : TypeId) (n : Nat) (f : Nat → Value) : Prop := w.heap[g]? = some (.cells ((Array.range n).map f) E (0, 0))

def upd (f : Nat → Value) (p : Nat) (v : Value) : Nat → Value := fun j => if j = p then v else f j

theorem Own.lt {w : World} {g E n : Nat} {f : Nat → Value} (h : Own w g E n f) : g < w.heap.size := (Array.getElem?_eq_some_iff.1 h).1
theorem Own.cell {w : World} {g E n : Nat} {f : Nat → Value} (h : Own w g E n f) {j : Nat} (hj : j < n) : w.cell? ⟨g, j, none⟩ = some (f j) := by
  unfold Own at h
  simp [World.cell?, h, hj]
theorem Own.frozen {w : World} {g E n : Nat} {f : Nat → Value} (h : Own w g E n f) (j : Nat) : w.frozen? ⟨g, j, none⟩ = false := by
  unfold Own at h
  simp [World.frozen?, h]
theorem Own.alloc {w : World} {g E n : Nat} {f : Nat → Value} (h : Own w g E n f) (o : Obj) : Own (w.alloc o) g E n f := by
  unfold Own
  rw [Below.heap_alloc _ _ _ h.lt]; exact h
theorem Own.below {w w' : World} {B g E n : Nat} {f : Nat → Value} (h : Own w g E n f) (hb : Below B w w') (hB : g < B) : Own w' g E n f := by
  unfold Own
  rw [hb.block g hB]; exact h
theorem Own.drew {w : World} {g E n : Nat} {f : Nat → Value} (h : Own w g E n f) : Own w.drew g E n f := h
theorem Own.set {w : World} {g E n : Nat} {f : Nat → Value} (h : Own w g E n f) (p : Nat) (v : Value) : Own (w.setCell ⟨g, p, none⟩ v) g E n (upd f p v) := by
  unfold Own at *
  rw [heap_setCell_same w g p _ E v h]
  congr 2
  apply Array.ext
  · simp
  · intro i h1 h2
    have h3 : i < ((Array.range n).map f).size := by simpa using h1
    rw [Array.getElem_setIfInBounds (hj := h3)]
    simp only [Array.getElem_map, Array.getElem_range, upd]
    by_cases e : p = i
    · rw [if_pos e, if_pos e.symm]
    · rw [if_neg e, if_neg (fun e' => e e'.symm)]
theorem Own.other {w : World} {g E n : Nat} {f : Nat → Value} (h : Own w g E n f) {g' : Nat} (hne : g' ≠ g) (p : Nat) (v : Value) : Own (w.setCell ⟨g', p, none⟩ v) g E n f := by
  unfold Own at *
  rw [Below.heap_setCell _ _ _ _ (fun e => hne e.symm)]; exact h
theorem Own.congr {w : World} {g E n : Nat} {f f' : Nat → Value} (h : Own w g E n f) (hf : ∀ j, j < n → f j = f' j) : Own w g E n f' := by
  unfold Own at *
  rw [h]
  congr 2
  apply Array.ext
  · simp
  · intro i h1 h2
    simp only [Array.getElem_map, Array.getElem_range]
    exact hf i (by simpa using h1)
theorem Own.new (w : World) (E n : Nat) (f : Nat → Value) : Own (w.alloc (.cells ((Array.range n).map f) E)) w.heap.size E n f := heap_alloc_new w _

/-- make([]T, n) of one-cell elements, as a fact of the walk. -/
theorem make_one {P : Program} {t e : TypeId} {z : Value} {bytes : Nat} (ht : P.underlying t = some (.slice e)) (hi : (P.info? e).map (fun i => (i.zero, i.size, i.bytes)) = some (some z, 1, bytes)) (hz : z.cells = #[z])
    (w : World) (n : Nat) (hb : bytes * n ≤ 281474976710656) (hn : n ≤ 9223372036854775807) :
    (Instr.makeSlice t (.int .i64 n) (.int .i64 n)).run P w = .ok (.slice (some ⟨w.heap.size, 0, none⟩) n n) (w.alloc (.cells ((Array.range n).map fun _ => z) e)) := by
  obtain ⟨i, hi1, hi2, hi3, hi4⟩ := info_parts hi
  have h := run_make (P := P) w t e i z ht hi1 hi2 .i64 .i64 n n (by omega) (by omega) (by rw [hi4]; omega) (by omega)
  rw [h, hi3, hz]
  simp [madeCells, Nat.mod_one]

/-- An own row of one-cell elements, read. -/
theorem Own.reads {α : Type} {R : CRep α} {w : World} {g E n : Nat} {f : Nat → Value} (h : Own w g E n f) {l : List α} (hl : l.length = n) (hn : n ≤ maxLen) (hR : ∀ j (hj : j < l.length), R w (LT w.heap.size) [f j] l[j]) :
    rSlice 1 R w (LT w.heap.size) [.slice (some ⟨g, 0, none⟩) n n] l := by
  refine ⟨some ⟨g, 0, none⟩, n, by rw [hl], by omega, hn, by simp, .inr ⟨g, 0, rfl, h.lt, fun j hj => ⟨[f j], rfl, ?_, hR j hj⟩⟩⟩
  intro c hc
  obtain rfl : c = 0 := by omega
  have := h.cell (j := j) (by omega)
  simpa using this

theorem rAt.one {α : Type} {R : CRep α} {w : World} {B : Nat → Prop} {b off : Nat} {l : List α} (h : rAt 1 R w B b off l) {j : Nat} (hj : j < l.length) :
    ∃ v, w.cell? ⟨b, off + j, none⟩ = some v ∧ R w B [v] l[j] := by
  obtain ⟨_, h⟩ := h
  obtain ⟨cs, h1, h2, h3⟩ := h j hj
  match cs, h1 with
  | [v], _ =>
    refine ⟨v, ?_, h3⟩
    have := h2 0 (by omega)
    simpa using this

theorem rAt.i64 {w : World} {B : Nat → Prop} {b off : Nat} {l : List Int} (h : rAt 1 rI64 w B b off l) {j : Nat} (hj : j < l.length) : w.cell? ⟨b, off + j, none⟩ = some (.int .i64 l[j]) ∧ i64ok l[j] := by
  obtain ⟨v, h1, h2, h3⟩ := h.one hj
  simp only [List.cons.injEq, and_true] at h2
  subst h2
  exact ⟨h1, h3⟩
theorem rAt.u32 {w : World} {B : Nat → Prop} {b off : Nat} {l : List Nat} (h : rAt 1 rU32 w B b off l) {j : Nat} (hj : j < l.length) : w.cell? ⟨b, off + j, none⟩ = some (.int .u32 l[j]) ∧ l[j] < 4294967296 := by
  obtain ⟨v, h1, h2, h3⟩ := h.one hj
  simp only [List.cons.injEq, and_true] at h2
  subst h2
  exact ⟨h1, h3⟩
theorem rAt.u16 {w : World} {B : Nat → Prop} {b off : Nat} {l : List Nat} (h : rAt 1 rU16 w B b off l) {j : Nat} (hj : j < l.length) : w.cell? ⟨b, off + j, none⟩ = some (.int .u16 l[j]) ∧ l[j] < 65536 := by
  obtain ⟨v, h1, h2, h3⟩ := h.one hj
  simp only [List.cons.injEq, and_true] at h2
  subst h2
  exact ⟨h1, h3⟩
theorem rAt.u8 {w : World} {B : Nat → Prop} {b off : Nat} {l : List Nat} (h : rAt 1 rU8 w B b off l) {j : Nat} (hj : j < l.length) : w.cell? ⟨b, off + j, none⟩ = some (.int .u8 l[j]) ∧ l[j] < 256 := by
  obtain ⟨v, h1, h2, h3⟩ := h.one hj
  simp only [List.cons.injEq, and_true] at h2
  subst h2
  exact ⟨h1, h3⟩

end Go.Proofs.YtgmedcncbpdimaaDoor
end
section
/- Slices that the call itself grows by append, element by element, read as lists; slices that it makes. -/
namespace Go.Proofs.YtgmedcncbpdimaaDoor
open Go.RowKit

theorem append_block {P : Program} (w : World) (base : Nat) (t ty e : TypeId) (i : TypeInfo) (z : Value) (size bytes : Nat) (ht : P.underlying t = some (.slice e)) (hi : P.info? e = some i) (hz : i.zero = some z)
    (hsize : i.size = size) (hby : i.bytes = bytes) (hzs : z.cells.size = size) (hsz : 0 < size)
    (v : Value) (n : Nat) (xs : List Value) (hown : w.ownsRow base e size v n xs)
    (a : Addr) (m c : Nat) (news : List Value) (hl : news.length = m * size) (hnews : ∀ j u, news[j]? = some u → w.cell? (a.add j) = some u) (h1 : ∀ u ∈ news, u.oneCell' = true)
    (h63 : n + m ≤ maxLen) (hbytes : (n + m) * bytes ≤ 140737488355328) (hbase : base ≤ w.heap.size) (hm : 0 < m) :
    ∃ v' w', (Builtin.append_ #[t, t] ty #[v, .slice (some a) m c]).run P w = .ok v' w' ∧ w'.ownsRow base e size v' (n + m) (xs ++ news) ∧ w.grownBy w' v.ownBlock ∧
      (v'.ownBlock = v.ownBlock ∨ v'.ownBlock = some w.heap.size) := by
  obtain ⟨v', w', hr, h2, h3, _⟩ := run_append_own (P := P) w base t ty e i z size bytes ht hi hz hsize hby hzs hsz v n xs hown a m c news hl hnews h1 h63 hbytes hbase
  refine ⟨v', w', hr, h2, h3, ?_⟩
  subst hsize; subst hby
  have hsmall : n + m ≤ 9223372036854775807 := by simp only [maxLen] at h63; omega
  rcases hown.2 with ⟨rfl, rfl⟩ | ⟨g, cap, cur, rfl, hbg, hg, hnc, hcm, hcs, htake⟩
  · have hq := run_append_nil (P := P) w t ty e i z ht hi hz a m c news hl hnews (by omega) (by omega) (by have hb := hbytes; simp only [Nat.zero_add] at hb; omega)
    rw [hq] at hr
    injection hr with e1 _
    subst e1
    exact .inr rfl
  · by_cases hroom : n + m ≤ cap
    · have hfit : n * i.size + news.length ≤ cur.size := by rw [hl, hcs, ← Nat.add_mul]; exact Nat.mul_le_mul_right _ hroom
      have hq := run_append_room (P := P) w t ty e i ht hi g n cap cur hg a m c news hl hnews h1 hroom hfit
      rw [hq] at hr
      injection hr with e1 _
      subst e1
      exact .inl rfl
    · have holds : ∀ j u, xs[j]? = some u → w.cell? ((⟨g, 0, none⟩ : Addr).add j) = some u := hown.cells (g := g) rfl
      have hq := run_append_grow (P := P) w t ty e i z ht hi hz ⟨g, 0, none⟩ n cap xs hown.1 holds a m c news hl hnews (by omega) (by omega) (growslice_fits (by omega) hbytes)
      rw [hq] at hr
      injection hr with e1 _
      subst e1
      exact .inr rfl

/-- What is below the heap's end and not in the row of v. -/
abbrev Beside (w : World) (v : Value) : Nat → Prop := fun b => b < w.heap.size ∧ some b ≠ v.ownBlock

/-- v is a slice of the call's own, from block base on, that reads as l and may be appended to. -/
def rGrow {α : Type} (E sz : Nat) (R : CRep α) (base : Nat) (w : World) (v : Value) (l : List α) : Prop :=
  ∃ xs, w.ownsRow base E sz v l.length xs ∧ ∀ j (hj : j < l.length), R w (Beside w v) ((xs.drop (j * sz)).take sz) l[j]

theorem rGrow.nil {α : Type} (E sz : Nat) (R : CRep α) (base : Nat) (w : World) : rGrow E sz R base w (.slice none 0 0) ([] : List α) :=
  ⟨[], World.ownsRow_nil _ _ _ _, fun j hj => by simp at hj⟩

theorem rGrow.slice {α : Type} {E sz : Nat} {R : CRep α} (hR : Stays R) {base : Nat} {w : World} {v : Value} {l : List α} (h : rGrow E sz R base w v l) :
    rSlice sz R w (LT w.heap.size) [v] l := by
  obtain ⟨xs, ⟨h1, h2⟩, h3⟩ := h
  rcases h2 with ⟨rfl, h2⟩ | ⟨g, cap, cur, rfl, h2, h4, h5, h6, h7, h8⟩
  · have : l = [] := List.eq_nil_of_length_eq_zero h2
    subst this
    exact ⟨none, 0, rfl, Nat.le_refl _, by unfold maxLen; omega, fun _ => rfl, .inl rfl⟩
  · refine ⟨some ⟨g, 0, none⟩, cap, rfl, h5, h6, by simp, .inr ⟨g, 0, rfl, (Array.getElem?_eq_some_iff.1 h4).1, fun j hj => ⟨(xs.drop (j * sz)).take sz, ?_, ?_, ?_⟩⟩⟩
    · have : (j + 1) * sz ≤ l.length * sz := Nat.mul_le_mul_right _ hj
      rw [Nat.add_mul] at this
      simp [h1]; omega
    · intro c hc
      have : (j + 1) * sz ≤ l.length * sz := Nat.mul_le_mul_right _ hj
      rw [Nat.add_mul] at this
      rw [List.getElem?_take, if_pos hc, List.getElem?_drop, ← h8, List.getElem?_take, if_pos (by omega)]
      simp [World.cell?, h4]
    · exact hR _ _ _ _ _ _ (h3 j hj) (Frame.refl _ _) fun b hb => hb.1

theorem rGrow.kept {α : Type} {E sz : Nat} {R : CRep α} (hR : Stays R) {base : Nat} {w w' : World} {v : Value} {l : List α} (h : rGrow E sz R base w v l) (hb : Below w.heap.size w w') : rGrow E sz R base w' v l := by
  obtain ⟨xs, h1, h3⟩ := h
  refine ⟨xs, h1.kept (row := none) ⟨hb.os, hb.tape, hb.output, hb.size, fun k hk _ => hb.block k hk⟩ (by cases v.ownBlock <;> simp), fun j hj => hR _ _ _ _ _ _ (h3 j hj) (fun b hb' => hb.block b hb'.1) fun b hb' => ⟨Nat.lt_of_lt_of_le hb'.1 hb.size, hb'.2⟩⟩

/-- The row of v lies from base on, below the heap's end. -/
theorem rGrow.lt {α : Type} {E sz : Nat} {R : CRep α} {base : Nat} {w : World} {v : Value} {l : List α} (h : rGrow E sz R base w v l) : ∀ k, v.ownBlock = some k → base ≤ k ∧ k < w.heap.size := h.choose_spec.1.lt

/-- One element more. -/
theorem rGrow.push {α : Type} {E sz : Nat} {R : CRep α} (hR : Stays R) (hsz : 0 < sz) {base : Nat} {w w' : World} {v v' : Value} {l : List α} {x : α} {news : List Value} (h3 : ∀ xs, w.ownsRow base E sz v l.length xs → w'.ownsRow base E sz v' (l.length + 1) (xs ++ news))
    (h : rGrow E sz R base w v l) (hn : news.length = sz) (hg : w.grownBy w' v.ownBlock) (hv : v'.ownBlock = v.ownBlock ∨ v'.ownBlock = some w.heap.size) (hx : R w (Beside w v) news x) : rGrow E sz R base w' v' (l ++ [x]) := by
  obtain ⟨xs, h1, h2⟩ := h
  have h4 := h3 xs h1
  have hst : ∀ cs (a : α), R w (Beside w v) cs a → R w' (Beside w' v') cs a := fun cs a hr => hR _ _ _ _ _ _ hr (fun b hb => hg.block b hb.1 hb.2) fun b hb => by
    refine ⟨Nat.lt_of_lt_of_le hb.1 hg.size, ?_⟩
    rcases hv with hv | hv
    · rw [hv]; exact hb.2
    · rw [hv]; intro e; have := Option.some.inj e; have := hb.1; omega
  refine ⟨xs ++ news, by simpa using h4, fun j hj => ?_⟩
  have hlen := h1.1
  by_cases hj' : j < l.length
  · have : (j + 1) * sz ≤ l.length * sz := Nat.mul_le_mul_right _ hj'
    rw [Nat.add_mul] at this
    rw [List.getElem_append_left hj', List.drop_append_of_le_length (by omega), List.take_append_of_le_length (by simp; omega)]
    exact hst _ _ (h2 j hj')
  · have hj2 : j = l.length := by simp at hj; omega
    subst hj2
    have e1 : (l ++ [x])[l.length] = x := by simp
    rw [e1, ← hlen, List.drop_left, List.take_of_length_le (by omega)]
    exact hst _ _ hx

/-- THE WALK's LAW: 's = append(s, x)', s of the call's own, x one element of a new block. -/
theorem wpList_push {α : Type} {P : Program} (w : World) {ops : Array Oper} {rest : List Oper} {o : Oper} {a : Act} {Q : Exit → Act → World → Prop} (hgd : o.guard = none) (s x : Operand) (t : TypeId)
    (ho : o.op = .call { callee := .builtin .append, args := #[s, x], argTypes := #[t, t] })
    {R : CRep α} (hR : Stays R) (base E sz bytes : Nat) (z : Value) (ht : P.underlying t = some (.slice E)) (hi : (P.info? E).map (fun i => (i.zero, i.size, i.bytes)) = some (some z, sz, bytes)) (hzs : z.cells.size = sz) (hsz : 0 < sz)
    (v : Value) (l : List α) (hs : a.eval s = v) (hv : rGrow E sz R base w v l) (hbase : base ≤ w.heap.size) (hbytes : (l.length + 1) * bytes ≤ 140737488355328) (h63 : l.length < 9223372036854775807)
    (b c : Nat) (news : List Value) (hx : a.eval x = .slice (some ⟨b, 0, none⟩) 1 c) (hl : news.length = sz) (hb : ∃ fz, w.heap[b]? = some (.cells news.toArray E fz)) (h1 : news.all Value.oneCell' = true)
    (y : α) (hy : R w (Beside w v) news y)
    (h : ∀ v' w', rGrow E sz R base w' v' (l ++ [y]) → w.grownBy w' v.ownBlock → Below base w w' → wpList P ops Q rest (a.put o.dst v') w') : wpList P ops Q (o :: rest) a w := by
  refine wpList_plain hgd fun K hK => ?_
  obtain ⟨i, hi1, hi2, hi3, hi4⟩ := info_parts hi
  obtain ⟨xs, hxs, hel⟩ := hv
  obtain ⟨fz, hb⟩ := hb
  have hnews : ∀ j u, news[j]? = some u → w.cell? ((⟨b, 0, none⟩ : Addr).add j) = some u := by
    intro j u hu
    have hadd : (⟨b, 0, none⟩ : Addr).add j = ⟨b, j, none⟩ := by unfold Addr.add; split <;> simp_all
    rw [hadd]; simp [World.cell?, hb, hu]
  obtain ⟨v', w', hr, h2, h3, h4⟩ := append_block (P := P) w base t o.type E i z sz bytes ht hi1 hi2 hi3 hi4 hzs hsz v l.length xs hxs ⟨b, 0, none⟩ 1 c news (by omega) hnews (fun u hu => List.all_eq_true.1 h1 u hu) (by unfold maxLen; omega) (by omega) hbase (by omega)
  have hrow : ∀ k, v.ownBlock = some k → base ≤ k := fun k hk => (hxs.lt k hk).1
  have hbel : Below base w w' := (Below.refl base w).grown h3 hbase hrow
  refine ?_
  unfold Oper.wp execOp
  simp only [ho, resolve, invoke, builtin, Sem.run_bind, Sem.run_pure, Result.andThen_ok, List.map_toArray, List.map_cons, List.map_nil, hs, hx, hr]
  refine hK _ _ (h v' w' ?_ h3 hbel)
  refine rGrow.push hR hsz (news := news) (fun xs' hxs' => ?_) ⟨xs, hxs, hel⟩ hl h3 h4 hy
  have : xs' = xs := by
    rcases hxs'.2 with ⟨e1, e2⟩ | ⟨g, cap, cur, e1, _, hg, _, _, _, ht'⟩
    · have := hxs.1; have := hxs'.1
      rw [e2] at *
      rw [List.eq_nil_of_length_eq_zero (by omega : xs.length = 0), List.eq_nil_of_length_eq_zero (by omega : xs'.length = 0)]
    · rcases hxs.2 with ⟨f1, _⟩ | ⟨g', cap', cur', f1, _, hg', _, _, _, ht''⟩
      · rw [f1] at e1; cases e1
      · rw [f1] at e1
        injection e1 with e1 _ _
        injection e1 with e1
        injection e1 with e1
        subst e1
        rw [hg] at hg'
        injection hg' with hg'
        injection hg' with hg' _ _
        rw [← ht', ← ht'', hg']
  rw [this]; exact h2

/-- make([]T, n), as a fact of the walk: a row of n zero elements. -/
theorem make_many {P : Program} {t e : TypeId} {z : Value} {sz bytes : Nat} (ht : P.underlying t = some (.slice e)) (hi : (P.info? e).map (fun i => (i.zero, i.size, i.bytes)) = some (some z, sz, bytes))
    (w : World) (n : Nat) (hb : bytes * n ≤ 281474976710656) (hn : n ≤ 9223372036854775807) :
    (Instr.makeSlice t (.int .i64 n) (.int .i64 n)).run P w = .ok (.slice (some ⟨w.heap.size, 0, none⟩) n n) (w.alloc (.cells (madeCells z.cells (n * sz)) e)) := by
  obtain ⟨i, hi1, hi2, hi3, hi4⟩ := info_parts hi
  have h := run_make (P := P) w t e i z ht hi1 hi2 .i64 .i64 n n (by omega) (by omega) (by rw [hi4]; omega) (by omega)
  rw [h, hi3]
  simp

theorem madeCells_get (z : Array Value) (n j c sz : Nat) (hz : z.size = sz) (hj : j < n) (hc : c < sz) : (madeCells z (n * sz))[j * sz + c]? = z[c]? := by
  have h1 : (j + 1) * sz ≤ n * sz := Nat.mul_le_mul_right _ hj
  rw [Nat.add_mul] at h1
  have h2 : (j * sz + c) % z.size = c := by rw [hz, Nat.add_comm, Nat.add_mul_mod_self_right, Nat.mod_eq_of_lt hc]
  have h3 : j * sz + c < n * sz := by omega
  simp only [madeCells, Array.getElem?_map, Array.getElem?_range, h3, if_pos, Option.map_some, h2]
  rw [getElem!_pos z c (by omega), Array.getElem?_eq_getElem (by omega)]

/-- A made row of zero elements, read. -/
theorem made_reads {α : Type} {sz : Nat} {R : CRep α} {W : World} {S : Nat → Prop} {b n cap : Nat} {z : Array Value} {E : TypeId} {fz : Nat × Nat} {x : α} (h : W.heap[b]? = some (.cells (madeCells z (n * sz)) E fz)) (hS : S b) (hn : n ≤ cap) (hcap : cap ≤ maxLen) (hz : z.size = sz)
    (hx : R W S z.toList x) : rSlice sz R W S [.slice (some ⟨b, 0, none⟩) n cap] (List.replicate n x) := by
  refine ⟨some ⟨b, 0, none⟩, cap, by simp, by simpa using hn, hcap, by simp, .inr ⟨b, 0, rfl, hS, fun j hj => ⟨z.toList, by simpa using hz, fun c hc => ?_, by simpa using hx⟩⟩⟩
  have := madeCells_get z n j c sz hz (by simpa using hj) hc
  simp [World.cell?, h, this]

end Go.Proofs.YtgmedcncbpdimaaDoor
end
section
/- Plain numbers: bytes and 32-bit limbs of natural numbers. No program in sight. -/
namespace Go.Proofs.YtgmedcncbpdimaaDoor


theorem ww_pos (k : Nat) : 0 < 4294967296 ^ k := Nat.pow_pos (by decide)

def limbsVal : List Nat → Nat
  | [] => 0
  | x :: r => x + 4294967296 * limbsVal r

def limbsOf (n : Nat) : List Nat := if h : n = 0 then [] else n % 4294967296 :: limbsOf (n / 4294967296)
termination_by n
decreasing_by omega

theorem limbsOf_zero : limbsOf 0 = [] := by unfold limbsOf; simp
theorem limbsOf_pos {n : Nat} (h : n ≠ 0) : limbsOf n = n % 4294967296 :: limbsOf (n / 4294967296) := by rw [limbsOf, dif_neg h]

theorem limbsVal_limbsOf (n : Nat) : limbsVal (limbsOf n) = n := by
  induction n using Nat.strongRecOn with
  | _ n ih =>
    by_cases h : n = 0
    · subst h; rw [limbsOf_zero]; rfl
    · rw [limbsOf_pos h]; show n % 4294967296 + 4294967296 * limbsVal _ = n
      rw [ih _ (by omega)]; omega

theorem limbsOf_lt (n : Nat) : ∀ x ∈ limbsOf n, x < 4294967296 := by
  induction n using Nat.strongRecOn with
  | _ n ih =>
    by_cases h : n = 0
    · subst h; rw [limbsOf_zero]; simp
    · rw [limbsOf_pos h]
      intro x hx
      rcases List.mem_cons.1 hx with rfl | hx
      · omega
      · exact ih _ (by omega) x hx

theorem limbsOf_len_pos {n : Nat} (h : 0 < n) : 0 < (limbsOf n).length := by rw [limbsOf_pos (by omega)]; simp

theorem limbsVal_append (xs ys : List Nat) : limbsVal (xs ++ ys) = limbsVal xs + 4294967296 ^ xs.length * limbsVal ys := by
  induction xs with
  | nil => simp [limbsVal]
  | cons x r ih => simp only [List.cons_append, limbsVal, ih, List.length_cons, Nat.pow_succ, Nat.mul_add]; rw [Nat.mul_comm (4294967296 ^ r.length) 4294967296, Nat.mul_assoc]; omega

theorem limbsVal_lt {xs : List Nat} (h : ∀ x ∈ xs, x < 4294967296) : limbsVal xs < 4294967296 ^ xs.length := by
  induction xs with
  | nil => simp [limbsVal]
  | cons x r ih =>
    have h1 := h x (by simp)
    have h2 := ih (fun y hy => h y (by simp [hy]))
    simp only [limbsVal, List.length_cons, Nat.pow_succ]
    have h3 : limbsVal r + 1 ≤ 4294967296 ^ r.length := h2
    have h4 := Nat.mul_le_mul_left 4294967296 h3
    rw [Nat.mul_comm (4294967296 ^ r.length)]
    omega

/-- Limbs without a zero at the end are those of their value. -/
theorem limbsOf_val {xs : List Nat} (h : ∀ x ∈ xs, x < 4294967296) (hl : ∀ (hne : xs ≠ []), xs.getLast hne ≠ 0) : limbsOf (limbsVal xs) = xs := by
  induction xs with
  | nil => exact limbsOf_zero
  | cons x r ih =>
    have h1 := h x (by simp)
    have ih' := ih (fun y hy => h y (by simp [hy])) (fun hne => by have := hl (by simp); rwa [List.getLast_cons hne] at this)
    have hpos : x + 4294967296 * limbsVal r ≠ 0 := by
      by_cases hr : r = []
      · subst hr; have := hl (by simp); simp at this; omega
      · intro h0
        have h2 : limbsVal r = 0 := by omega
        rw [h2, limbsOf_zero] at ih'
        exact hr ih'.symm
    show limbsOf (x + 4294967296 * limbsVal r) = x :: r
    rw [limbsOf_pos hpos, show (x + 4294967296 * limbsVal r) % 4294967296 = x by omega, show (x + 4294967296 * limbsVal r) / 4294967296 = limbsVal r by omega, ih']

theorem limbsVal_zeros (k : Nat) : limbsVal (List.replicate k 0) = 0 := by
  induction k with
  | zero => rfl
  | succ k ih => simp [List.replicate_succ, limbsVal, ih]

theorem limbsOf_len_le {n k : Nat} (h : n < 4294967296 ^ k) : (limbsOf n).length ≤ k := by
  induction k generalizing n with
  | zero => have : n = 0 := by simpa using h
            subst this; rw [limbsOf_zero]; simp
  | succ k ih =>
    by_cases h0 : n = 0
    · subst h0; rw [limbsOf_zero]; simp
    · rw [limbsOf_pos h0, List.length_cons]
      have := ih (n := n / 4294967296) (by rw [Nat.pow_succ] at h; exact Nat.div_lt_of_lt_mul (by rw [Nat.mul_comm]; exact h))
      omega

theorem limbsOf_len_ge {n k : Nat} (h : 4294967296 ^ k ≤ n) : k < (limbsOf n).length := by
  have h1 := limbsVal_lt (limbsOf_lt n)
  rw [limbsVal_limbsOf] at h1
  exact (Nat.pow_lt_pow_iff_right (by decide : 1 < 4294967296)).1 (Nat.lt_of_le_of_lt h h1)

/-- The i-th limb. -/
theorem limbsVal_get {xs : List Nat} (h : ∀ x ∈ xs, x < 4294967296) {i : Nat} (hi : i < xs.length) : limbsVal xs / 4294967296 ^ i % 4294967296 = xs[i] := by
  induction xs generalizing i with
  | nil => simp at hi
  | cons x r ih =>
    have h1 := h x (by simp)
    cases i with
    | zero => simp only [limbsVal, Nat.pow_zero, Nat.div_one, List.getElem_cons_zero]; omega
    | succ i =>
      simp only [limbsVal, List.getElem_cons_succ]
      rw [Nat.pow_succ, Nat.mul_comm (4294967296 ^ i), ← Nat.div_div_eq_div_mul, show (x + 4294967296 * limbsVal r) / 4294967296 = limbsVal r by omega]
      exact ih (fun y hy => h y (by simp [hy])) (by simpa using hi)

theorem limbsVal_take {xs : List Nat} (h : ∀ x ∈ xs, x < 4294967296) (i : Nat) : limbsVal (xs.take i) = limbsVal xs % 4294967296 ^ i := by
  induction xs generalizing i with
  | nil => simp [limbsVal]
  | cons x r ih =>
    have h1 := h x (by simp)
    cases i with
    | zero => simp [limbsVal, Nat.mod_one]
    | succ i =>
      simp only [List.take_succ_cons, limbsVal, ih (fun y hy => h y (by simp [hy]))]
      rw [Nat.pow_succ, Nat.mul_comm (4294967296 ^ i), Nat.mod_mul, show (x + 4294967296 * limbsVal r) % 4294967296 = x by omega, show (x + 4294967296 * limbsVal r) / 4294967296 = limbsVal r by omega]

theorem limbsVal_snoc (xs : List Nat) (x : Nat) : limbsVal (xs ++ [x]) = limbsVal xs + 4294967296 ^ xs.length * x := by
  rw [limbsVal_append]; simp [limbsVal]

theorem limbsVal_take_succ (xs : List Nat) (i : Nat) (hlt : i < xs.length) : limbsVal (xs.take (i + 1)) = limbsVal (xs.take i) + 4294967296 ^ i * xs[i] := by
  rw [List.take_succ_eq_append_getElem hlt, limbsVal_snoc, List.length_take, Nat.min_eq_left (by omega)]

/-- The first n limbs of v, zeros included. -/
def limbsFix (n v : Nat) : List Nat := (List.range n).map fun j => v / 4294967296 ^ j % 4294967296
theorem limbsFix_len (n v : Nat) : (limbsFix n v).length = n := by simp [limbsFix]
theorem limbsFix_lt (n v : Nat) : ∀ x ∈ limbsFix n v, x < 4294967296 := by
  intro x hx
  obtain ⟨j, _, rfl⟩ := List.mem_map.1 hx
  exact Nat.mod_lt _ (by decide)
theorem limbsFix_get (n v i : Nat) (h : i < n) : (limbsFix n v)[i]? = some (v / 4294967296 ^ i % 4294967296) := by simp [limbsFix, h]
theorem limbsFix_val (n v : Nat) : limbsVal (limbsFix n v) = v % 4294967296 ^ n := by
  induction n with
  | zero => simp [limbsFix, limbsVal, Nat.mod_one]
  | succ n ih =>
    have : limbsFix (n + 1) v = limbsFix n v ++ [v / 4294967296 ^ n % 4294967296] := by simp [limbsFix, List.range_succ]
    rw [this, limbsVal_snoc, limbsFix_len, ih, Nat.pow_succ, Nat.mod_mul]
theorem limbsFix_of {xs : List Nat} (h : ∀ x ∈ xs, x < 4294967296) : limbsFix xs.length (limbsVal xs) = xs := by
  apply List.ext_getElem?
  intro i
  by_cases hi : i < xs.length
  · rw [limbsFix_get _ _ _ hi, limbsVal_get h hi, List.getElem?_eq_getElem hi]
  · rw [List.getElem?_eq_none (by rw [limbsFix_len]; omega), List.getElem?_eq_none (by omega)]

/-! ### Bytes, the most significant one first -/

def bytesVal (l : List UInt8) : Nat := l.foldl (fun a b => a * 256 + b.toNat) 0
def natBytes (n : Nat) : List UInt8 := if _h : n = 0 then [] else natBytes (n / 256) ++ [UInt8.ofNat (n % 256)]
termination_by n
decreasing_by omega

theorem natBytes_zero : natBytes 0 = [] := by unfold natBytes; simp
theorem natBytes_pos {n : Nat} (h : n ≠ 0) : natBytes n = natBytes (n / 256) ++ [UInt8.ofNat (n % 256)] := by rw [natBytes, dif_neg h]

theorem bytesVal_snoc (l : List UInt8) (b : UInt8) : bytesVal (l ++ [b]) = bytesVal l * 256 + b.toNat := by simp [bytesVal]
theorem bytesVal_nil : bytesVal [] = 0 := rfl

theorem bytesVal_natBytes (n : Nat) : bytesVal (natBytes n) = n := by
  induction n using Nat.strongRecOn with
  | _ n ih =>
    by_cases h : n = 0
    · subst h; rw [natBytes_zero]; rfl
    · rw [natBytes_pos h, bytesVal_snoc, ih _ (by omega)]
      have : (UInt8.ofNat (n % 256)).toNat = n % 256 := by simp
      omega

theorem foldl_bytes (r : List UInt8) : ∀ a : Nat, r.foldl (fun a b => a * 256 + b.toNat) a = a * 256 ^ r.length + bytesVal r := by
  induction r with
  | nil => intro a; show a = a * 1 + 0; omega
  | cons b r ih =>
    intro a
    show r.foldl (fun a b => a * 256 + b.toNat) (a * 256 + b.toNat) = a * 256 ^ (r.length + 1) + r.foldl (fun a b => a * 256 + b.toNat) (0 * 256 + b.toNat)
    rw [ih, ih, Nat.pow_succ, Nat.mul_comm (256 ^ r.length), ← Nat.mul_assoc, Nat.add_mul (a * 256), Nat.zero_mul, Nat.zero_add, Nat.add_assoc]
theorem bytesVal_append (l r : List UInt8) : bytesVal (l ++ r) = bytesVal l * 256 ^ r.length + bytesVal r := by
  simp only [bytesVal, List.foldl_append]; exact foldl_bytes r _
theorem bytesVal_cons (b : UInt8) (r : List UInt8) : bytesVal (b :: r) = b.toNat * 256 ^ r.length + bytesVal r := by
  have h := bytesVal_append [b] r
  have e : bytesVal [b] = b.toNat := by show 0 * 256 + b.toNat = _; omega
  rw [e] at h
  exact h
theorem bytesVal_lt (l : List UInt8) : bytesVal l < 256 ^ l.length := by
  induction l with
  | nil => simp [bytesVal]
  | cons b r ih =>
    rw [bytesVal_cons, List.length_cons, Nat.pow_succ]
    have h1 : b.toNat + 1 ≤ 256 := b.toNat_lt
    have h2 := Nat.mul_le_mul_right (256 ^ r.length) h1
    rw [Nat.add_mul] at h2
    rw [Nat.mul_comm (256 ^ r.length)]
    omega

theorem natBytes_val_aux (k : Nat) : ∀ l : List UInt8, l.length = k → (∀ (h : l ≠ []), l.head h ≠ 0) → natBytes (bytesVal l) = l := by
  induction k with
  | zero => intro l hl _; have : l = [] := List.eq_nil_of_length_eq_zero hl
            subst this; exact natBytes_zero
  | succ k ih =>
    intro l hl hh
    have hne : l ≠ [] := by intro h; subst h; simp at hl
    have hsp := List.dropLast_concat_getLast hne
    generalize l.dropLast = r at hsp
    generalize l.getLast hne = b at hsp
    subst hsp
    have hrl : r.length = k := by simpa using hl
    have hr := ih r hrl (fun h => by have := hh (by simp); rwa [List.head_append_left h] at this)
    rw [bytesVal_snoc]
    have hb := b.toNat_lt
    have hpos : bytesVal r * 256 + b.toNat ≠ 0 := by
      intro h0
      have h1 : bytesVal r = 0 := by omega
      have h2 : b.toNat = 0 := by omega
      rw [h1, natBytes_zero] at hr
      subst hr
      have := hh (by simp)
      simp only [List.nil_append, List.head_cons] at this
      exact this (UInt8.toNat_inj.1 (by simpa using h2))
    rw [natBytes_pos hpos, show (bytesVal r * 256 + b.toNat) / 256 = bytesVal r by omega, show (bytesVal r * 256 + b.toNat) % 256 = b.toNat by omega, hr]
    simp

theorem natBytes_val {l : List UInt8} (h : ∀ (h : l ≠ []), l.head h ≠ 0) : natBytes (bytesVal l) = l := natBytes_val_aux _ l rfl h

theorem bytesVal_dropWhile (l : List UInt8) : bytesVal (l.dropWhile (· == 0)) = bytesVal l := by
  induction l with
  | nil => rfl
  | cons b r ih =>
    by_cases hb : b = 0
    · subst hb; rw [List.dropWhile_cons_of_pos (by simp), ih, bytesVal_cons]; simp
    · rw [List.dropWhile_cons_of_neg (by simpa using hb)]

theorem dropWhile_natBytes (l : List UInt8) : l.dropWhile (· == 0) = natBytes (bytesVal l) := by
  rw [← bytesVal_dropWhile]
  symm
  apply natBytes_val
  intro h
  have := List.head_dropWhile_not (fun x : UInt8 => x == 0) h
  simpa using this

theorem natBytes_head {n : Nat} (h : natBytes n ≠ []) : (natBytes n).head h ≠ 0 := by
  have e := dropWhile_natBytes (natBytes n)
  rw [bytesVal_natBytes] at e
  have := List.head_dropWhile_not (fun x : UInt8 => x == 0) (l := natBytes n) (by rw [e]; exact h)
  simp only [e] at this
  simpa using this

theorem natBytes_len_le {n k : Nat} (h : n < 256 ^ k) : (natBytes n).length ≤ k := by
  induction k generalizing n with
  | zero => have : n = 0 := by simpa using h
            subst this; rw [natBytes_zero]; simp
  | succ k ih =>
    by_cases h0 : n = 0
    · subst h0; rw [natBytes_zero]; simp
    · rw [natBytes_pos h0, List.length_append, List.length_singleton]
      have := ih (n := n / 256) (by rw [Nat.pow_succ] at h; exact Nat.div_lt_of_lt_mul (by rw [Nat.mul_comm]; exact h))
      omega
theorem natBytes_lt (n : Nat) : n < 256 ^ (natBytes n).length := by
  have := bytesVal_lt (natBytes n)
  rwa [bytesVal_natBytes] at this
theorem natBytes_len_ge {n k : Nat} (h : 256 ^ k ≤ n) : k < (natBytes n).length :=
  (Nat.pow_lt_pow_iff_right (by decide : 1 < 256)).1 (Nat.lt_of_le_of_lt h (natBytes_lt n))

def natStr (n : Nat) : ByteArray := ⟨(natBytes n).toArray⟩
def strVal (s : ByteArray) : Nat := bytesVal s.data.toList
theorem strVal_natStr (n : Nat) : strVal (natStr n) = n := by simp [strVal, natStr, bytesVal_natBytes]
theorem natStr_inj {a b : Nat} (h : natStr a = natStr b) : a = b := by have := congrArg strVal h; simpa [strVal_natStr] using this
theorem natStr_size (n : Nat) : (natStr n).size = (natBytes n).length := by simp [natStr, ByteArray.size]
theorem strVal_lt (s : ByteArray) : strVal s < 256 ^ s.size := by
  exact bytesVal_lt s.data.toList

end Go.Proofs.YtgmedcncbpdimaaDoor
end
