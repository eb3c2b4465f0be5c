/- Readings of Go values as plain Lean data, stable while the call makes memory of its own. No program in sight. -/
import Derived.WalkKit
import Derived.WalkSpells
import Derived.WalkLawsBesides
import Derived.OrdersHeld
import Derived.Below
set_option linter.unusedVariables false
set_option linter.unusedSimpArgs false
set_option linter.defProp false
set_option linter.unnecessarySimpa false
section
/- Readings of Go values as plain Lean data, stable while the call makes memory of its own. No program in sight. -/
namespace Go.Proofs.YtogeijhepjcbgaaGreatDoor
open Go.RowKit

/-- Kept from the walk's simp, the statement as it stands. -/
theorem hid {p : Prop} (h : p) : Hid p := h

/-- A reading: in world w, with all blocks in S, the cells read as a. -/
abbrev CRep (α : Type) := World → (Nat → Prop) → List Value → α → Prop
abbrev LT (n : Nat) : Nat → Prop := fun b => b < n
/-- The blocks in S are as they were. -/
def Frame (S : Nat → Prop) (w w' : World) : Prop := ∀ b, S b → w'.heap[b]? = w.heap[b]?
theorem Frame.refl (S : Nat → Prop) (w : World) : Frame S w w := fun _ _ => rfl
theorem Frame.trans {S : Nat → Prop} {a b c : World} (h : Frame S a b) (k : Frame S b c) : Frame S a c := fun i hi => (k i hi).trans (h i hi)
theorem Frame.below {B : Nat} {w w' : World} (h : Below B w w') : Frame (LT B) w w' := fun b hb => h.block b hb
theorem Frame.mono {S T : Nat → Prop} {w w' : World} (h : Frame S w w') (hs : ∀ b, T b → S b) : Frame T w w' := fun b hb => h b (hs b hb)
theorem Frame.cell {S : Nat → Prop} {w w' : World} (h : Frame S w w') {p : Addr} (hp : S p.block) : w'.cell? p = w.cell? p := World.cell?_of_block (w := w) (h p.block hp)

/-- A reading that stays while the blocks of S stay. -/
def Stays {α : Type} (R : CRep α) : Prop := ∀ w w' S S' cs a, R w S cs a → Frame S w w' → (∀ b, S b → S' b) → R w' S' cs a
theorem Stays.below {α : Type} {R : CRep α} (hR : Stays R) {w w' : World} {B B' : Nat} {cs : List Value} {a : α} (h : R w (LT B) cs a) (hb : Below B w w') (hB : B ≤ B') : R w' (LT B') cs a :=
  hR _ _ _ _ _ _ h (Frame.below hb) fun b hb => Nat.lt_of_lt_of_le hb hB

structure GRat where
  neg : Bool
  num : ByteArray
  den : ByteArray
deriving DecidableEq, Inhabited

structure GOpt where
  amount : GRat
  rank : Int
deriving Inhabited

structure GDisp where
  est : Int
  cl : Int
  opts : List GOpt
deriving Inhabited

def i64ok (n : Int) : Prop := -9223372036854775808 ≤ n ∧ n ≤ 9223372036854775807

def rI64 : CRep Int := fun _ _ cs n => cs = [.int .i64 n] ∧ i64ok n
def rU8 : CRep Nat := fun _ _ cs n => cs = [.int .u8 n] ∧ n < 256
def rU16 : CRep Nat := fun _ _ cs n => cs = [.int .u16 n] ∧ n < 65536
def rU32 : CRep Nat := fun _ _ cs n => cs = [.int .u32 n] ∧ n < 4294967296
def rRat : CRep GRat := fun _ _ cs r => cs = [.bool r.neg, .string r.num, .string r.den] ∧ r.num.size ≤ maxLen ∧ r.den.size ≤ maxLen
def rOpt : CRep GOpt := fun _ _ cs o => cs = [.bool o.amount.neg, .string o.amount.num, .string o.amount.den, .int .i64 o.rank] ∧ o.amount.num.size ≤ maxLen ∧ o.amount.den.size ≤ maxLen ∧ i64ok o.rank

/-- The elements of a slice at block b from off on. -/
def rAt {α : Type} (sz : Nat) (R : CRep α) (w : World) (B : Nat → Prop) (b off : Nat) (l : List α) : Prop :=
  B b ∧ ∀ j (h : j < l.length), ∃ cs, cs.length = sz ∧ (∀ c, c < sz → w.cell? ⟨b, off + j * sz + c, none⟩ = cs[c]?) ∧ R w B cs l[j]

def rSlice {α : Type} (sz : Nat) (R : CRep α) : CRep (List α) := fun w B cs l =>
  ∃ a cap, cs = [.slice a l.length cap] ∧ l.length ≤ cap ∧ cap ≤ maxLen ∧ (a = none → cap = 0) ∧ (l = [] ∨ ∃ b off, a = some ⟨b, off, none⟩ ∧ rAt sz R w B b off l)

def rDisp : CRep GDisp := fun w B cs d => ∃ v, cs = [.int .i64 d.est, .int .i64 d.cl, v] ∧ i64ok d.est ∧ i64ok d.cl ∧ rSlice 4 rOpt w B [v] d.opts

theorem stays_pure {α : Type} {p : List Value → α → Prop} : Stays (fun _ _ cs a => p cs a) := fun _ _ _ _ _ _ h _ _ => h
theorem stays_rI64 : Stays rI64 := stays_pure
theorem stays_rU8 : Stays rU8 := stays_pure
theorem stays_rU16 : Stays rU16 := stays_pure
theorem stays_rU32 : Stays rU32 := stays_pure
theorem stays_rRat : Stays rRat := stays_pure
theorem stays_rOpt : Stays rOpt := stays_pure

theorem stays_rAt {α : Type} {sz : Nat} {R : CRep α} (hR : Stays R) {w w' : World} {S S' : Nat → Prop} {b off : Nat} {l : List α} (h : rAt sz R w S b off l) (hb : Frame S w w') (hB : ∀ b, S b → S' b) : rAt sz R w' S' b off l := by
  obtain ⟨hlt, h⟩ := h
  refine ⟨hB _ hlt, fun j hj => ?_⟩
  obtain ⟨cs, h1, h2, h3⟩ := h j hj
  exact ⟨cs, h1, fun c hc => by rw [hb.cell (p := ⟨b, off + j * sz + c, none⟩) hlt]; exact h2 c hc, hR _ _ _ _ _ _ h3 hb hB⟩

theorem stays_rSlice {α : Type} {sz : Nat} {R : CRep α} (hR : Stays R) : Stays (rSlice sz R) := by
  rintro w w' S S' cs l ⟨a, cap, rfl, h1, h2, h3, h4⟩ hb hB
  refine ⟨a, cap, rfl, h1, h2, h3, ?_⟩
  rcases h4 with h4 | ⟨b, off, rfl, h4⟩
  · exact .inl h4
  · exact .inr ⟨b, off, rfl, stays_rAt hR h4 hb hB⟩

theorem stays_rDisp : Stays rDisp := by
  rintro w w' S S' cs d ⟨v, rfl, h1, h2, h3⟩ hb hB
  exact ⟨v, rfl, h1, h2, stays_rSlice stays_rOpt _ _ _ _ _ _ h3 hb hB⟩

theorem len_le {α : Type} {l : List α} {cap : Nat} (h1 : l.length ≤ cap) (h2 : cap ≤ maxLen) : l.length ≤ 9223372036854775807 := by
  unfold maxLen at h2; omega

/-- One element of a slice, its reading at a later world. -/
theorem rAt.get {α : Type} {sz : Nat} {R : CRep α} (hR : Stays R) {w w' : World} {S : Nat → Prop} {b off : Nat} {l : List α} (h : rAt sz R w S b off l) (hb : Frame S w w') {j : Nat} (hj : j < l.length) :
    ∃ cs, cs.length = sz ∧ (∀ c, c < sz → w'.cell? ⟨b, off + j * sz + c, none⟩ = cs[c]?) ∧ R w' S cs l[j] := by
  obtain ⟨_, h⟩ := stays_rAt hR h hb (fun _ h => h)
  exact h j hj

theorem rAt.disp {w w' : World} {B b off : Nat} {l : List GDisp} (h : rAt 3 rDisp w (LT B) b off l) (hb : Below B w w') {j : Nat} (hj : j < l.length) :
    ∃ a cap, w'.cell? ⟨b, off + j * 3, none⟩ = some (.int .i64 l[j].est) ∧ w'.cell? ⟨b, off + j * 3 + 1, none⟩ = some (.int .i64 l[j].cl) ∧ w'.cell? ⟨b, off + j * 3 + 2, none⟩ = some (.slice a l[j].opts.length cap) ∧
      rSlice 4 rOpt w' (LT B) [.slice a l[j].opts.length cap] l[j].opts := by
  obtain ⟨cs, h1, h2, v, rfl, h3, h4, h5⟩ := h.get stays_rDisp (Frame.below hb) hj
  obtain ⟨a, cap, h6, h7⟩ := h5
  simp only [List.cons.injEq, and_true] at h6
  subst h6
  exact ⟨a, cap, h2 0 (by omega), h2 1 (by omega), h2 2 (by omega), ⟨a, cap, rfl, h7⟩⟩

theorem ret_int {k : IntKind} {a b : Int} (h : a = b) : Ending.returned (.int k a) = .returned (.int k b) := by rw [h]
theorem ret_bool {a b : Bool} (h : a = b) : Ending.returned (.bool a) = .returned (.bool b) := by rw [h]
theorem ret_str {a b : ByteArray} (h : a = b) : Ending.returned (.string a) = .returned (.string b) := by rw [h]
theorem _root_.Go.RowKit.Below.drewN {B : Nat} {a w : World} (h : Below B a w) (n : Nat) : Below B a (w.drewN n) := ⟨h.os, h.tape, h.output, h.size, h.block⟩
theorem _root_.Go.RowKit.Below.step {w a b : World} (h : Below w.heap.size w a) (h' : Below a.heap.size a b) : Below w.heap.size w b := h.trans (h'.mono h.size)

/-! ### Rows of the call's own -/

/-- Block g holds n cells, cell j being f j; nothing of it is frozen. -/
def Own (w : World) (g : Nat) (E : TypeId) (n : Nat) (f : Nat → Value) : Prop := w.heap[g]? = some (.cells ((Array.range n).map f) E (0, 0))

def upd (f : Nat → Value) (p : Nat) (v : Value) : Nat → Value := fun j => if j = p then v else f j

theorem Own.lt {w : World} {g E n : Nat} {f : Nat → Value} (h : Own w g E n f) : g < w.heap.size := (Array.getElem?_eq_some_iff.1 h).1
theorem Own.cell {w : World} {g E n : Nat} {f : Nat → Value} (h : Own w g E n f) {j : Nat} (hj : j < n) : w.cell? ⟨g, j, none⟩ = some (f j) := by
  unfold Own at h
  simp [World.cell?, h, hj]
theorem Own.frozen {w : World} {g E n : Nat} {f : Nat → Value} (h : Own w g E n f) (j : Nat) : w.frozen? ⟨g, j, none⟩ = false := by
  unfold Own at h
  simp [World.frozen?, h]
theorem Own.alloc {w : World} {g E n : Nat} {f : Nat → Value} (h : Own w g E n f) (o : Obj) : Own (w.alloc o) g E n f := by
  unfold Own
  rw [Below.heap_alloc _ _ _ h.lt]; exact h
theorem Own.below {w w' : World} {B g E n : Nat} {f : Nat → Value} (h : Own w g E n f) (hb : Below B w w') (hB : g < B) : Own w' g E n f := by
  unfold Own
  rw [hb.block g hB]; exact h
theorem Own.drew {w : World} {g E n : Nat} {f : Nat → Value} (h : Own w g E n f) : Own w.drew g E n f := h
theorem Own.set {w : World} {g E n : Nat} {f : Nat → Value} (h : Own w g E n f) (p : Nat) (v : Value) : Own (w.setCell ⟨g, p, none⟩ v) g E n (upd f p v) := by
  unfold Own at *
  rw [heap_setCell_same w g p _ E v h]
  congr 2
  apply Array.ext
  · simp
  · intro i h1 h2
    have h3 : i < ((Array.range n).map f).size := by simpa using h1
    rw [Array.getElem_setIfInBounds (hj := h3)]
    simp only [Array.getElem_map, Array.getElem_range, upd]
    by_cases e : p = i
    · rw [if_pos e, if_pos e.symm]
    · rw [if_neg e, if_neg (fun e' => e e'.symm)]
theorem Own.other {w : World} {g E n : Nat} {f : Nat → Value} (h : Own w g E n f) {g' : Nat} (hne : g' ≠ g) (p : Nat) (v : Value) : Own (w.setCell ⟨g', p, none⟩ v) g E n f := by
  unfold Own at *
  rw [Below.heap_setCell _ _ _ _ (fun e => hne e.symm)]; exact h
theorem Own.congr {w : World} {g E n : Nat} {f f' : Nat → Value} (h : Own w g E n f) (hf : ∀ j, j < n → f j = f' j) : Own w g E n f' := by
  unfold Own at *
  rw [h]
  congr 2
  apply Array.ext
  · simp
  · intro i h1 h2
    simp only [Array.getElem_map, Array.getElem_range]
    exact hf i (by simpa using h1)
theorem Own.new (w : World) (E n : Nat) (f : Nat → Value) : Own (w.alloc (.cells ((Array.range n).map f) E)) w.heap.size E n f := heap_alloc_new w _

/-- make([]T, n) of one-cell elements, as a fact of the walk. -/
theorem make_one {P : Program} {t e : TypeId} {z : Value} {bytes : Nat} (ht : P.underlying t = some (.slice e)) (hi : (P.info? e).map (fun i => (i.zero, i.size, i.bytes)) = some (some z, 1, bytes)) (hz : z.cells = #[z])
    (w : World) (n : Nat) (hb : bytes * n ≤ 281474976710656) (hn : n ≤ 9223372036854775807) :
    (Instr.makeSlice t (.int .i64 n) (.int .i64 n)).run P w = .ok (.slice (some ⟨w.heap.size, 0, none⟩) n n) (w.alloc (.cells ((Array.range n).map fun _ => z) e)) := by
  obtain ⟨i, hi1, hi2, hi3, hi4⟩ := info_parts hi
  have h := run_make (P := P) w t e i z ht hi1 hi2 .i64 .i64 n n (by omega) (by omega) (by rw [hi4]; omega) (by omega)
  rw [h, hi3, hz]
  simp [madeCells, Nat.mod_one]

/-- An own row of one-cell elements, read. -/
theorem Own.reads {α : Type} {R : CRep α} {w : World} {g E n : Nat} {f : Nat → Value} (h : Own w g E n f) {l : List α} (hl : l.length = n) (hn : n ≤ maxLen) (hR : ∀ j (hj : j < l.length), R w (LT w.heap.size) [f j] l[j]) :
    rSlice 1 R w (LT w.heap.size) [.slice (some ⟨g, 0, none⟩) n n] l := by
  refine ⟨some ⟨g, 0, none⟩, n, by rw [hl], by omega, hn, by simp, .inr ⟨g, 0, rfl, h.lt, fun j hj => ⟨[f j], rfl, ?_, hR j hj⟩⟩⟩
  intro c hc
  obtain rfl : c = 0 := by omega
  have := h.cell (j := j) (by omega)
  simpa using this

theorem rAt.one {α : Type} {R : CRep α} {w : World} {B : Nat → Prop} {b off : Nat} {l : List α} (h : rAt 1 R w B b off l) {j : Nat} (hj : j < l.length) :
    ∃ v, w.cell? ⟨b, off + j, none⟩ = some v ∧ R w B [v] l[j] := by
  obtain ⟨_, h⟩ := h
  obtain ⟨cs, h1, h2, h3⟩ := h j hj
  match cs, h1 with
  | [v], _ =>
    refine ⟨v, ?_, h3⟩
    have := h2 0 (by omega)
    simpa using this

theorem rAt.i64 {w : World} {B : Nat → Prop} {b off : Nat} {l : List Int} (h : rAt 1 rI64 w B b off l) {j : Nat} (hj : j < l.length) : w.cell? ⟨b, off + j, none⟩ = some (.int .i64 l[j]) ∧ i64ok l[j] := by
  obtain ⟨v, h1, h2, h3⟩ := h.one hj
  simp only [List.cons.injEq, and_true] at h2
  subst h2
  exact ⟨h1, h3⟩
theorem rAt.u32 {w : World} {B : Nat → Prop} {b off : Nat} {l : List Nat} (h : rAt 1 rU32 w B b off l) {j : Nat} (hj : j < l.length) : w.cell? ⟨b, off + j, none⟩ = some (.int .u32 l[j]) ∧ l[j] < 4294967296 := by
  obtain ⟨v, h1, h2, h3⟩ := h.one hj
  simp only [List.cons.injEq, and_true] at h2
  subst h2
  exact ⟨h1, h3⟩
theorem rAt.u16 {w : World} {B : Nat → Prop} {b off : Nat} {l : List Nat} (h : rAt 1 rU16 w B b off l) {j : Nat} (hj : j < l.length) : w.cell? ⟨b, off + j, none⟩ = some (.int .u16 l[j]) ∧ l[j] < 65536 := by
  obtain ⟨v, h1, h2, h3⟩ := h.one hj
  simp only [List.cons.injEq, and_true] at h2
  subst h2
  exact ⟨h1, h3⟩
theorem rAt.u8 {w : World} {B : Nat → Prop} {b off : Nat} {l : List Nat} (h : rAt 1 rU8 w B b off l) {j : Nat} (hj : j < l.length) : w.cell? ⟨b, off + j, none⟩ = some (.int .u8 l[j]) ∧ l[j] < 256 := by
  obtain ⟨v, h1, h2, h3⟩ := h.one hj
  simp only [List.cons.injEq, and_true] at h2
  subst h2
  exact ⟨h1, h3⟩

end Go.Proofs.YtogeijhepjcbgaaGreatDoor
end
section
/- Slices that the call itself grows by append, element by element, read as lists; slices that it makes. -/
namespace Go.Proofs.YtogeijhepjcbgaaGreatDoor
open Go.RowKit

theorem append_block {P : Program} (w : World) (base : Nat) (t ty e : TypeId) (i : TypeInfo) (z : Value) (size bytes : Nat) (ht : P.underlying t = some (.slice e)) (hi : P.info? e = some i) (hz : i.zero = some z)
    (hsize : i.size = size) (hby : i.bytes = bytes) (hzs : z.cells.size = size) (hsz : 0 < size)
    (v : Value) (n : Nat) (xs : List Value) (hown : w.ownsRow base e size v n xs)
    (a : Addr) (m c : Nat) (news : List Value) (hl : news.length = m * size) (hnews : ∀ j u, news[j]? = some u → w.cell? (a.add j) = some u) (h1 : ∀ u ∈ news, u.oneCell' = true)
    (h63 : n + m ≤ maxLen) (hbytes : (n + m) * bytes ≤ 140737488355328) (hbase : base ≤ w.heap.size) (hm : 0 < m) :
    ∃ v' w', (Builtin.append_ #[t, t] ty #[v, .slice (some a) m c]).run P w = .ok v' w' ∧ w'.ownsRow base e size v' (n + m) (xs ++ news) ∧ w.grownBy w' v.ownBlock ∧
      (v'.ownBlock = v.ownBlock ∨ v'.ownBlock = some w.heap.size) := by
  obtain ⟨v', w', hr, h2, h3, _⟩ := run_append_own (P := P) w base t ty e i z size bytes ht hi hz hsize hby hzs hsz v n xs hown a m c news hl hnews h1 h63 hbytes hbase
  refine ⟨v', w', hr, h2, h3, ?_⟩
  subst hsize; subst hby
  have hsmall : n + m ≤ 9223372036854775807 := by simp only [maxLen] at h63; omega
  rcases hown.2 with ⟨rfl, rfl⟩ | ⟨g, cap, cur, rfl, hbg, hg, hnc, hcm, hcs, htake⟩
  · have hq := run_append_nil (P := P) w t ty e i z ht hi hz a m c news hl hnews (by omega) (by omega) (by have hb := hbytes; simp only [Nat.zero_add] at hb; omega)
    rw [hq] at hr
    injection hr with e1 _
    subst e1
    exact .inr rfl
  · by_cases hroom : n + m ≤ cap
    · have hfit : n * i.size + news.length ≤ cur.size := by rw [hl, hcs, ← Nat.add_mul]; exact Nat.mul_le_mul_right _ hroom
      have hq := run_append_room (P := P) w t ty e i ht hi g n cap cur hg a m c news hl hnews h1 hroom hfit
      rw [hq] at hr
      injection hr with e1 _
      subst e1
      exact .inl rfl
    · have holds : ∀ j u, xs[j]? = some u → w.cell? ((⟨g, 0, none⟩ : Addr).add j) = some u := hown.cells (g := g) rfl
      have hq := run_append_grow (P := P) w t ty e i z ht hi hz ⟨g, 0, none⟩ n cap xs hown.1 holds a m c news hl hnews (by omega) (by omega) (growslice_fits (by omega) hbytes)
      rw [hq] at hr
      injection hr with e1 _
      subst e1
      exact .inr rfl

/-- What is below the heap's end and not in the row of v. -/
abbrev Beside (w : World) (v : Value) : Nat → Prop := fun b => b < w.heap.size ∧ some b ≠ v.ownBlock

/-- v is a slice of the call's own, from block base on, that reads as l and may be appended to. -/
def rGrow {α : Type} (E sz : Nat) (R : CRep α) (base : Nat) (w : World) (v : Value) (l : List α) : Prop :=
  ∃ xs, w.ownsRow base E sz v l.length xs ∧ ∀ j (hj : j < l.length), R w (Beside w v) ((xs.drop (j * sz)).take sz) l[j]

theorem rGrow.nil {α : Type} (E sz : Nat) (R : CRep α) (base : Nat) (w : World) : rGrow E sz R base w (.slice none 0 0) ([] : List α) :=
  ⟨[], World.ownsRow_nil _ _ _ _, fun j hj => by simp at hj⟩

theorem rGrow.slice {α : Type} {E sz : Nat} {R : CRep α} (hR : Stays R) {base : Nat} {w : World} {v : Value} {l : List α} (h : rGrow E sz R base w v l) :
    rSlice sz R w (LT w.heap.size) [v] l := by
  obtain ⟨xs, ⟨h1, h2⟩, h3⟩ := h
  rcases h2 with ⟨rfl, h2⟩ | ⟨g, cap, cur, rfl, h2, h4, h5, h6, h7, h8⟩
  · have : l = [] := List.eq_nil_of_length_eq_zero h2
    subst this
    exact ⟨none, 0, rfl, Nat.le_refl _, by unfold maxLen; omega, fun _ => rfl, .inl rfl⟩
  · refine ⟨some ⟨g, 0, none⟩, cap, rfl, h5, h6, by simp, .inr ⟨g, 0, rfl, (Array.getElem?_eq_some_iff.1 h4).1, fun j hj => ⟨(xs.drop (j * sz)).take sz, ?_, ?_, ?_⟩⟩⟩
    · have : (j + 1) * sz ≤ l.length * sz := Nat.mul_le_mul_right _ hj
      rw [Nat.add_mul] at this
      simp [h1]; omega
    · intro c hc
      have : (j + 1) * sz ≤ l.length * sz := Nat.mul_le_mul_right _ hj
      rw [Nat.add_mul] at this
      rw [List.getElem?_take, if_pos hc, List.getElem?_drop, ← h8, List.getElem?_take, if_pos (by omega)]
      simp [World.cell?, h4]
    · exact hR _ _ _ _ _ _ (h3 j hj) (Frame.refl _ _) fun b hb => hb.1

theorem rGrow.kept {α : Type} {E sz : Nat} {R : CRep α} (hR : Stays R) {base : Nat} {w w' : World} {v : Value} {l : List α} (h : rGrow E sz R base w v l) (hb : Below w.heap.size w w') : rGrow E sz R base w' v l := by
  obtain ⟨xs, h1, h3⟩ := h
  refine ⟨xs, h1.kept (row := none) ⟨hb.os, hb.tape, hb.output, hb.size, fun k hk _ => hb.block k hk⟩ (by cases v.ownBlock <;> simp), fun j hj => hR _ _ _ _ _ _ (h3 j hj) (fun b hb' => hb.block b hb'.1) fun b hb' => ⟨Nat.lt_of_lt_of_le hb'.1 hb.size, hb'.2⟩⟩

/-- The row of v lies from base on, below the heap's end. -/
theorem rGrow.lt {α : Type} {E sz : Nat} {R : CRep α} {base : Nat} {w : World} {v : Value} {l : List α} (h : rGrow E sz R base w v l) : ∀ k, v.ownBlock = some k → base ≤ k ∧ k < w.heap.size := h.choose_spec.1.lt

/-- One element more. -/
theorem rGrow.push {α : Type} {E sz : Nat} {R : CRep α} (hR : Stays R) (hsz : 0 < sz) {base : Nat} {w w' : World} {v v' : Value} {l : List α} {x : α} {news : List Value} (h3 : ∀ xs, w.ownsRow base E sz v l.length xs → w'.ownsRow base E sz v' (l.length + 1) (xs ++ news))
    (h : rGrow E sz R base w v l) (hn : news.length = sz) (hg : w.grownBy w' v.ownBlock) (hv : v'.ownBlock = v.ownBlock ∨ v'.ownBlock = some w.heap.size) (hx : R w (Beside w v) news x) : rGrow E sz R base w' v' (l ++ [x]) := by
  obtain ⟨xs, h1, h2⟩ := h
  have h4 := h3 xs h1
  have hst : ∀ cs (a : α), R w (Beside w v) cs a → R w' (Beside w' v') cs a := fun cs a hr => hR _ _ _ _ _ _ hr (fun b hb => hg.block b hb.1 hb.2) fun b hb => by
    refine ⟨Nat.lt_of_lt_of_le hb.1 hg.size, ?_⟩
    rcases hv with hv | hv
    · rw [hv]; exact hb.2
    · rw [hv]; intro e; have := Option.some.inj e; have := hb.1; omega
  refine ⟨xs ++ news, by simpa using h4, fun j hj => ?_⟩
  have hlen := h1.1
  by_cases hj' : j < l.length
  · have : (j + 1) * sz ≤ l.length * sz := Nat.mul_le_mul_right _ hj'
    rw [Nat.add_mul] at this
    rw [List.getElem_append_left hj', List.drop_append_of_le_length (by omega), List.take_append_of_le_length (by simp; omega)]
    exact hst _ _ (h2 j hj')
  · have hj2 : j = l.length := by simp at hj; omega
    subst hj2
    have e1 : (l ++ [x])[l.length] = x := by simp
    rw [e1, ← hlen, List.drop_left, List.take_of_length_le (by omega)]
    exact hst _ _ hx

/-- THE WALK's LAW: 's = append(s, x)', s of the call's own, x one element of a new block. -/
theorem wpList_push {α : Type} {P : Program} (w : World) {ops : Array Oper} {rest : List Oper} {o : Oper} {a : Act} {Q : Exit → Act → World → Prop} (hgd : o.guard = none) (s x : Operand) (t : TypeId)
    (ho : o.op = .call { callee := .builtin .append, args := #[s, x], argTypes := #[t, t] })
    {R : CRep α} (hR : Stays R) (base E sz bytes : Nat) (z : Value) (ht : P.underlying t = some (.slice E)) (hi : (P.info? E).map (fun i => (i.zero, i.size, i.bytes)) = some (some z, sz, bytes)) (hzs : z.cells.size = sz) (hsz : 0 < sz)
    (v : Value) (l : List α) (hs : a.eval s = v) (hv : rGrow E sz R base w v l) (hbase : base ≤ w.heap.size) (hbytes : (l.length + 1) * bytes ≤ 140737488355328) (h63 : l.length < 9223372036854775807)
    (b c : Nat) (news : List Value) (hx : a.eval x = .slice (some ⟨b, 0, none⟩) 1 c) (hl : news.length = sz) (hb : ∃ fz, w.heap[b]? = some (.cells news.toArray E fz)) (h1 : news.all Value.oneCell' = true)
    (y : α) (hy : R w (Beside w v) news y)
    (h : ∀ v' w', rGrow E sz R base w' v' (l ++ [y]) → w.grownBy w' v.ownBlock → Below base w w' → wpList P ops Q rest (a.put o.dst v') w') : wpList P ops Q (o :: rest) a w := by
  refine wpList_plain hgd fun K hK => ?_
  obtain ⟨i, hi1, hi2, hi3, hi4⟩ := info_parts hi
  obtain ⟨xs, hxs, hel⟩ := hv
  obtain ⟨fz, hb⟩ := hb
  have hnews : ∀ j u, news[j]? = some u → w.cell? ((⟨b, 0, none⟩ : Addr).add j) = some u := by
    intro j u hu
    have hadd : (⟨b, 0, none⟩ : Addr).add j = ⟨b, j, none⟩ := by unfold Addr.add; split <;> simp_all
    rw [hadd]; simp [World.cell?, hb, hu]
  obtain ⟨v', w', hr, h2, h3, h4⟩ := append_block (P := P) w base t o.type E i z sz bytes ht hi1 hi2 hi3 hi4 hzs hsz v l.length xs hxs ⟨b, 0, none⟩ 1 c news (by omega) hnews (fun u hu => List.all_eq_true.1 h1 u hu) (by unfold maxLen; omega) (by omega) hbase (by omega)
  have hrow : ∀ k, v.ownBlock = some k → base ≤ k := fun k hk => (hxs.lt k hk).1
  have hbel : Below base w w' := (Below.refl base w).grown h3 hbase hrow
  refine ?_
  unfold Oper.wp execOp
  simp only [ho, resolve, invoke, builtin, Sem.run_bind, Sem.run_pure, Result.andThen_ok, List.map_toArray, List.map_cons, List.map_nil, hs, hx, hr]
  refine hK _ _ (h v' w' ?_ h3 hbel)
  refine rGrow.push hR hsz (news := news) (fun xs' hxs' => ?_) ⟨xs, hxs, hel⟩ hl h3 h4 hy
  have : xs' = xs := by
    rcases hxs'.2 with ⟨e1, e2⟩ | ⟨g, cap, cur, e1, _, hg, _, _, _, ht'⟩
    · have := hxs.1; have := hxs'.1
      rw [e2] at *
      rw [List.eq_nil_of_length_eq_zero (by omega : xs.length = 0), List.eq_nil_of_length_eq_zero (by omega : xs'.length = 0)]
    · rcases hxs.2 with ⟨f1, _⟩ | ⟨g', cap', cur', f1, _, hg', _, _, _, ht''⟩
      · rw [f1] at e1; cases e1
      · rw [f1] at e1
        injection e1 with e1 _ _
        injection e1 with e1
        injection e1 with e1
        subst e1
        rw [hg] at hg'
        injection hg' with hg'
        injection hg' with hg' _ _
        rw [← ht', ← ht'', hg']
  rw [this]; exact h2

/-- make([]T, n), as a fact of the walk: a row of n zero elements. -/
theorem make_many {P : Program} {t e : TypeId} {z : Value} {sz bytes : Nat} (ht : P.underlying t = some (.slice e)) (hi : (P.info? e).map (fun i => (i.zero, i.size, i.bytes)) = some (some z, sz, bytes))
    (w : World) (n : Nat) (hb : bytes * n ≤ 281474976710656) (hn : n ≤ 9223372036854775807) :
    (Instr.makeSlice t (.int .i64 n) (.int .i64 n)).run P w = .ok (.slice (some ⟨w.heap.size, 0, none⟩) n n) (w.alloc (.cells (madeCells z.cells (n * sz)) e)) := by
  obtain ⟨i, hi1, hi2, hi3, hi4⟩ := info_parts hi
  have h := run_make (P := P) w t e i z ht hi1 hi2 .i64 .i64 n n (by omega) (by omega) (by rw [hi4]; omega) (by omega)
  rw [h, hi3]
  simp

theorem madeCells_get (z : Array Value) (n j c sz : Nat) (hz : z.size = sz) (hj : j < n) (hc : c < sz) : (madeCells z (n * sz))[j * sz + c]? = z[c]? := by
  have h1 : (j + 1) * sz ≤ n * sz := Nat.mul_le_mul_right _ hj
  rw [Nat.add_mul] at h1
  have h2 : (j * sz + c) % z.size = c := by rw [hz, Nat.add_comm, Nat.add_mul_mod_self_right, Nat.mod_eq_of_lt hc]
  have h3 : j * sz + c < n * sz := by omega
  simp only [madeCells, Array.getElem?_map, Array.getElem?_range, h3, if_pos, Option.map_some, h2]
  rw [getElem!_pos z c (by omega), Array.getElem?_eq_getElem (by omega)]

/-- A made row of zero elements, read. -/
theorem made_reads {α : Type} {sz : Nat} {R : CRep α} {W : World} {S : Nat → Prop} {b n cap : Nat} {z : Array Value} {E : TypeId} {fz : Nat × Nat} {x : α} (h : W.heap[b]? = some (.cells (madeCells z (n * sz)) E fz)) (hS : S b) (hn : n ≤ cap) (hcap : cap ≤ maxLen) (hz : z.size = sz)
    (hx : R W S z.toList x) : rSlice sz R W S [.slice (some ⟨b, 0, none⟩) n cap] (List.replicate n x) := by
  refine ⟨some ⟨b, 0, none⟩, cap, by simp, by simpa using hn, hcap, by simp, .inr ⟨b, 0, rfl, hS, fun j hj => ⟨z.toList, by simpa using hz, fun c hc => ?_, by simpa using hx⟩⟩⟩
  have := madeCells_get z n j c sz hz (by simpa using hj) hc
  simp [World.cell?, h, this]

end Go.Proofs.YtogeijhepjcbgaaGreatDoor
end
section
/- Regions that draw their order, by a schedule: operations that neither write nor make memory are taken ahead of those that only make memory; the last ones come in one order. No program in sight. -/
namespace Go.Proofs.YtogeijhepjcbgaaGreatDoor
open Go Go.RowKit

/-- What was in memory is as it was; there may be more. -/
def FL (w w' : World) : Prop := w.heap.size ≤ w'.heap.size ∧ ∀ b, b < w.heap.size → w'.heap[b]? = w.heap[b]?
theorem FL.refl (w : World) : FL w w := ⟨Nat.le_refl _, fun _ _ => rfl⟩
theorem FL.trans {a b c : World} (h : FL a b) (k : FL b c) : FL a c := ⟨Nat.le_trans h.1 k.1, fun i hi => (k.2 i (Nat.lt_of_lt_of_le hi h.1)).trans (h.2 i hi)⟩
theorem FL.of_below {w w' : World} (h : Below w.heap.size w w') : FL w w' := ⟨h.size, fun b hb => h.block b hb⟩
theorem FL.cell {w w' : World} {p : Addr} (h : FL w w') (hc : (w.cell? p).isSome = true) : w'.cell? p = w.cell? p := by
  have hb : p.block < w.heap.size := by
    unfold World.cell? at hc
    rcases Nat.lt_or_ge p.block w.heap.size with h | h
    · exact h
    · simp [Array.getElem?_eq_none h] at hc
  unfold World.cell?
  rw [h.2 _ hb]
theorem FL.alloc (w : World) (o : Obj) : FL w (w.alloc o) := FL.of_below ((Below.refl _ _).alloc (Nat.le_refl _) _)

section
variable {P : Program} {ops : Array Oper} {Q : Exit → Act → World → Prop} {md : Region.Mode} {F : Nat → Bool}

def wpD (P : Program) (md : Region.Mode) (ops : Array Oper) (Q : Exit → Act → World → Prop) (F : Nat → Bool) : Nat → Array Bool → Act → World → Prop
  | 0, listed, a, w => Region.ready md ops listed = [] ∧ Q .normal a w
  | fuel + 1, listed, a, w =>
    (Region.ready md ops listed = [] → Q .normal a w) ∧
    ∀ i ∈ Region.ready md ops listed, wpOp P ops Q i (fun a' w' => (F i = true → FL w w') ∧ wpD P md ops Q F fuel (listed.setIfInBounds i true) a' w') a w

theorem wpAny_of_D : ∀ (fuel : Nat) (listed : Array Bool) (a : Act) (w : World), wpD P md ops Q F fuel listed a w → wpAny P md ops Q fuel listed a w
  | 0, _, _, _, h => h
  | fuel + 1, _, _, _, h => ⟨h.1, fun i hi => wpOp_mono (fun a' w' h' => wpAny_of_D fuel _ a' w' h'.2) (h.2 i hi)⟩

theorem yieldsIf_mono {S S' : World → Prop} {o : Oper} {v : Value} {a : Act} (hs : ∀ w, S' w → S w) (h : YieldsIf P ops S o v a) : YieldsIf P ops S' o v a :=
  h.imp (fun ⟨h1, h2⟩ => ⟨h1, fun w hw => h2 w (hs w hw)⟩) id

/-- j waits for i, by a chain of at most n edges. -/
def waitsOn (md : Region.Mode) (ops : Array Oper) (i : Nat) : Nat → Nat → Bool
  | 0, _ => false
  | n + 1, j => match ops[j]? with
    | none => false
    | some o => o.after.any fun e => Region.binds md e && (e.on == i || waitsOn md ops i n e.on)

def Closed (md : Region.Mode) (ops : Array Oper) (listed : Array Bool) : Prop :=
  listed.size = ops.size ∧ ∀ (k : Nat) (o : Oper), ops[k]? = some o → listed.getD k false = true → ∀ e ∈ o.after, Region.binds md e = true → listed.getD e.on false = true

theorem Closed.start : Closed md ops (Array.replicate ops.size false) := by
  refine ⟨by simp, fun k o _ h => ?_⟩
  by_cases hk : k < ops.size <;> simp [hk] at h
theorem Closed.set {i : Nat} {listed : Array Bool} (h : Closed md ops listed) (hr : i ∈ Region.ready md ops listed) : Closed md ops (listed.setIfInBounds i true) := by
  refine ⟨by simpa using h.1, fun k o ho hl e he hb => ?_⟩
  by_cases hk : k = i
  · subst hk
    obtain ⟨_, o', ho', hall⟩ := mem_ready.1 hr
    obtain rfl : o' = o := Option.some.inj (ho'.symm.trans ho)
    exact getD_set_true (hall e he hb)
  · rw [getD_set_ne false (fun e => hk e.symm)] at hl
    exact getD_set_true (h.2 k o ho hl e he hb)

theorem waitsOn_listed {i : Nat} {listed : Array Bool} (hc : Closed md ops listed) : ∀ (n j : Nat), listed.getD j false = true → waitsOn md ops i n j = true → listed.getD i false = true := by
  intro n
  induction n with
  | zero => intro j _ h; simp [waitsOn] at h
  | succ n ih =>
    intro j hj h
    unfold waitsOn at h
    split at h
    · cases h
    · rename_i o ho
      obtain ⟨e, he, h⟩ := Array.any_eq_true'.1 h
      simp only [Bool.and_eq_true, Bool.or_eq_true, beq_iff_eq] at h
      have hl := hc.2 j o ho hj e he h.1
      rcases h.2 with h2 | h2
      · rw [← h2]; exact hl
      · exact ih _ hl h2
theorem waitsOn_ready {i : Nat} {listed : Array Bool} (hc : Closed md ops listed) (n j : Nat) (hj : j ∈ Region.ready md ops listed) (h : waitsOn md ops i n j = true) : listed.getD i false = true := by
  obtain ⟨_, o, ho, hall⟩ := mem_ready.1 hj
  cases n with
  | zero => simp [waitsOn] at h
  | succ n =>
    unfold waitsOn at h
    simp only [ho] at h
    obtain ⟨e, he, h⟩ := Array.any_eq_true'.1 h
    simp only [Bool.and_eq_true, Bool.or_eq_true, beq_iff_eq] at h
    have hl := hall e he h.1
    rcases h.2 with h2 | h2
    · rw [← h2]; exact hl
    · exact waitsOn_listed hc n _ hl h2

theorem getD_clash {listed : Array Bool} {i : Nat} (h : listed.getD i true = false) (h' : listed.getD i false = true) : False := by
  rcases Nat.lt_or_ge i listed.size with hi | hi
  · simp [hi] at h h'; rw [h] at h'; cases h'
  · simp [hi] at h

def earlyB (md : Region.Mode) (ops : Array Oper) (F : Nat → Bool) (listed : Array Bool) (i : Nat) : Bool :=
  (List.range ops.size).all fun j => j == i || listed.getD j true || F j || waitsOn md ops i ops.size j

theorem wpD_first {i N : Nat} {oi : Oper} {v : Value} (hi : ops[i]? = some oi) (hsel : ∀ (j : Nat) (o : Oper) cs b, ops[j]? = some o → o.op ≠ .select cs b)
    (hQ : ∀ c a w, Q (.panic c) (a.put oi.dst v) w → Q (.panic c) a w) :
    ∀ (fuel : Nat) (listed : Array Bool) (a : Act) (w : World), Closed md ops listed →
      (∀ j oj, ops[j]? = some oj → j ≠ i → listed.getD j true = false → (∀ e ∈ oj.after, Region.binds md e = true → e.on ≠ i) → oi.apart ops oj = true) →
      (∀ j oj, ops[j]? = some oj → j ≠ i → listed.getD j true = false → F j = true ∨ waitsOn md ops i N j = true) →
      i ∈ Region.ready md ops listed → YieldsIf P ops (FL w) oi v a →
      wpD P md ops Q F fuel (listed.setIfInBounds i true) (a.put oi.dst v) w → wpD P md ops Q F (fuel + 1) listed a w := by
  intro fuel
  induction fuel with
  | zero =>
    intro listed a w _ _ _ hr hy H
    refine ⟨fun h => (by rw [h] at hr; cases hr), fun j hj => ?_⟩
    by_cases hji : j = i
    · subst hji; exact hy.wpOp hi (FL.refl w) ⟨fun _ => FL.refl w, H⟩
    · have := ready_mono hj hji
      rw [H.1] at this
      cases this
  | succ fuel ih =>
    intro listed a w hc hfree hearly hr hy H
    refine ⟨fun h => (by rw [h] at hr; cases hr), fun j hj => ?_⟩
    by_cases hji : j = i
    · subst hji; exact hy.wpOp hi (FL.refl w) ⟨fun _ => FL.refl w, H⟩
    · have h1 := H.2 j (ready_mono hj hji)
      obtain ⟨hjun, oj, hoj, hall⟩ := mem_ready.1 hj
      have hnot : ∀ e ∈ oj.after, Region.binds md e = true → e.on ≠ i := fun e he hb heq => by
        have h1 := hall e he hb
        rw [heq] at h1
        exact getD_clash (mem_ready.1 hr).1 h1
      have hF : F j = true := by
        rcases hearly j oj hoj hji hjun with h | h
        · exact h
        · exact (getD_clash (mem_ready.1 hr).1 (waitsOn_ready hc _ _ hj h)).elim
      have h2 := wpOp_putIf hoj (hfree j oj hoj hji hjun hnot) (fun cs b => hsel i oi cs b hi) (fun cs b => hsel j oj cs b hoj) hQ hy h1
      have sub : ∀ k, (listed.setIfInBounds j true).getD k true = false → listed.getD k true = false := fun k h => by
        by_cases hjk : j = k
        · subst hjk; exact hjun
        · rw [getD_set_ne true hjk] at h; exact h
      refine wpOp_mono (fun a' w' h3 => ⟨h3.2.1, ih (listed.setIfInBounds j true) a' w' (hc.set hj) (fun k ok hk hki hun hno => hfree k ok hk hki (sub k hun) hno) (fun k ok hk hki hun => hearly k ok hk hki (sub k hun)) (ready_mono hr (Ne.symm hji)) (yieldsIf_mono (fun _ h => (h3.2.1 hF).trans h) h3.1) ?_⟩) h2
      rw [Array.setIfInBounds_comm _ _ hji]
      exact h3.2.2

/-- The schedule holds: those marked true are taken ahead, the others come up alone. -/
def schedB (md : Region.Mode) (ops : Array Oper) (F : Nat → Bool) : List (Nat × Bool) → Array Bool → Bool
  | [], listed => (Region.ready md ops listed).isEmpty
  | (i, true) :: r, listed => (Region.ready md ops listed).contains i && Region.free md ops listed i && earlyB md ops F listed i && schedB md ops F r (listed.setIfInBounds i true)
  | (i, false) :: r, listed => decide (Region.ready md ops listed = [i]) && schedB md ops F r (listed.setIfInBounds i true)

def wpS (P : Program) (ops : Array Oper) (Q : Exit → Act → World → Prop) (F : Nat → Bool) : List (Nat × Bool) → Act → World → Prop
  | [], a, w => Q .normal a w
  | (i, true) :: r, a, w => ∃ o v, ops[i]? = some o ∧ YieldsIf P ops (FL w) o v a ∧ wpS P ops Q F r (a.put o.dst v) w
  | (i, false) :: r, a, w => wpOp P ops Q i (fun a' w' => (F i = true → FL w w') ∧ wpS P ops Q F r a' w') a w

theorem wpD_of_S (hs : Region.noSelect ops = true) (hQ : ∀ c a d v w, Q (.panic c) (Act.put a d v) w → Q (.panic c) a w) : ∀ (s : List (Nat × Bool)) (listed : Array Bool) (a : Act) (w : World), Closed md ops listed → schedB md ops F s listed = true →
    wpS P ops Q F s a w → wpD P md ops Q F s.length listed a w
  | [], listed, a, w, _, hB, h => ⟨by simpa [schedB] using hB, h⟩
  | (i, true) :: r, listed, a, w, hc, hB, h => by
    simp only [schedB, Bool.and_eq_true] at hB
    obtain ⟨⟨⟨h1, h2⟩, h3⟩, h4⟩ := hB
    obtain ⟨o, v, ho, hy, hr⟩ := h
    have hrd : i ∈ Region.ready md ops listed := by simpa using h1
    refine wpD_first (N := ops.size) ho (Region.noSelect_spec hs) (fun c a w => hQ c a o.dst v w) r.length listed a w hc (Region.free_spec ho h2) (fun j oj hj hne hun => ?_) hrd hy (wpD_of_S hs hQ r _ _ _ (hc.set hrd) h4 hr)
    have hlt : j < ops.size := (Array.getElem?_eq_some_iff.1 hj).1
    have := List.all_eq_true.1 h3 j (List.mem_range.2 hlt)
    simpa [hne, hun] using this
  | (i, false) :: r, listed, a, w, hc, hB, h => by
    simp only [schedB, Bool.and_eq_true, decide_eq_true_eq] at hB
    refine ⟨fun h0 => (by rw [hB.1] at h0; cases h0), fun j hj => ?_⟩
    have hj' := hj
    rw [hB.1] at hj
    obtain rfl : j = i := by simpa using hj
    exact wpOp_mono (fun a' w' h' => ⟨h'.1, wpD_of_S hs hQ r _ a' w' (hc.set hj') hB.2 h'.2⟩) h

/-- A region that draws its order, by a schedule. -/
theorem wp_region_sched {id : Nat} {a : Act} {w : World} (hm : P.follows .mixedOrders = true) (s : List (Nat × Bool)) (F : Nat → Bool)
    (hB : (Region.noSelect ops && decide (s.length = ops.size) && schedB .any ops F s (Array.replicate ops.size false)) = true)
    (hQ : ∀ c a d v w, Q (.panic c) (Act.put a d v) w → Q (.panic c) a w) (h : wpS P ops Q F s a w.drew) : (Code.region id ops true).wp P Q a w := by
  simp only [Bool.and_eq_true, decide_eq_true_eq] at hB
  obtain ⟨⟨h1, h2⟩, h3⟩ := hB
  refine wp_region_any hm (wpAny_of_D (F := F) _ _ _ _ ?_)
  rw [← h2]
  have := wpD_of_S (P := P) (md := .any) h1 hQ s (Array.replicate ops.size false) a w.drew Closed.start h3 h
  rw [← h2] at this
  exact this

theorem wpS_take {i : Nat} {o : Oper} {v : Value} {a a' : Act} {w : World} {r : List (Nat × Bool)} (hi : ops[i]? = some o) (hy : YieldsIf P ops (FL w) o v a) (ha : a.put o.dst v = a') (h : wpS P ops Q F r a' w) : wpS P ops Q F ((i, true) :: r) a w :=
  ⟨o, v, hi, hy, ha ▸ h⟩
theorem wpS_skip {i j s : Nat} {b : Bool} {o oj : Oper} {a a' : Act} {w : World} {r : List (Nat × Bool)} (hi : ops[i]? = some o) (hg : o.guard = some (j, b)) (hj : ops[j]? = some oj) (hd : oj.dst = some s) (hv : a.tmps[s]? = some (.bool (!b))) (ha : a.put o.dst undef = a')
    (h : wpS P ops Q F r a' w) : wpS P ops Q F ((i, true) :: r) a w :=
  wpS_take hi (Or.inr ⟨by cases b <;> simp [Region.wanted, hg, yielded, hj, hd, hv], rfl⟩) ha h
theorem wpS_eff {i : Nat} {o : Oper} {a : Act} {w : World} {r : List (Nat × Bool)} (hi : ops[i]? = some o) (hw : Region.wanted o (yielded ops a.tmps) = true) (hF : F i = true)
    (h : ∀ K : Act → World → Prop, (∀ a' w', FL w w' → wpS P ops Q F r a' w' → K a' w') → o.wp P a w K Q) : wpS P ops Q F ((i, false) :: r) a w := by
  show wpOp P ops Q i _ a w
  unfold wpOp
  simp only [hi, hw, if_true]
  exact .inl (h _ fun a' w' h1 h2 => ⟨fun _ => h1, h2⟩)
theorem wpS_last {i : Nat} {o : Oper} {a : Act} {w : World} {r : List (Nat × Bool)} (hi : ops[i]? = some o) (hw : Region.wanted o (yielded ops a.tmps) = true) (hF : F i = false)
    (h : ∀ K : Act → World → Prop, (∀ a' w', wpS P ops Q F r a' w' → K a' w') → o.wp P a w K Q) : wpS P ops Q F ((i, false) :: r) a w := by
  show wpOp P ops Q i _ a w
  unfold wpOp
  simp only [hi, hw, if_true]
  exact .inl (h _ fun a' w' h2 => ⟨fun h => (by rw [hF] at h; cases h), h2⟩)
/-- The last operations, as a list that the walk knows. -/
theorem wpS_seq : ∀ (l : List Oper) (k : Nat) (a : Act) (w : World), (∀ j, j < l.length → l[j]? = ops[k + j]?) → (∀ j, k ≤ j → F j = false) → wpList P ops Q l a w → wpS P ops Q F ((List.range' k l.length).map (·, false)) a w
  | [], _, _, _, _, _, h => h
  | o :: l, k, a, w, hl, hF, h => by
    have h0 : ops[k]? = some o := by simpa using (hl 0 (by simp)).symm
    have hw : wpOp P ops Q k (wpList P ops Q l) a w := by unfold wpOp; simp only [h0]; exact h
    show wpOp P ops Q k _ a w
    exact wpOp_mono (fun a' w' h' => ⟨fun hf => (by rw [hF k (Nat.le_refl _)] at hf; cases hf), wpS_seq l (k + 1) a' w' (fun j hj => by have := hl (j + 1) (by simp; omega); simpa [Nat.add_assoc, Nat.add_comm 1 j] using this) (fun j hj => hF j (by omega)) h'⟩) hw
theorem wpS_tail (k : Nat) {a : Act} {w : World} (hF : ∀ j, k ≤ j → F j = false) (h : wpList P ops Q (ops.toList.drop k) a w) : wpS P ops Q F ((List.range' k (ops.toList.drop k).length).map (·, false)) a w :=
  wpS_seq _ k a w (fun j _ => by simp) hF h
theorem wpS_done {a : Act} {w : World} (h : Q .normal a w) : wpS P ops Q F [] a w := h
end

end Go.Proofs.YtogeijhepjcbgaaGreatDoor
end
section
/- Regions that draw their order, by a schedule that may part in two where two operations may come up. No program in sight. -/
namespace Go.Proofs.YtogeijhepjcbgaaGreatDoor
open Go Go.RowKit

/-- A schedule: done; take i (ahead, or as the only one); part: i or j comes up. -/
inductive Sch where
  | nil : Sch
  | cons : Nat → Bool → Sch → Sch
  | two : Nat → Nat → Sch → Sch → Sch

def Sch.len : Sch → Nat
  | .nil => 0
  | .cons _ _ r => r.len + 1
  | .two _ _ r _ => r.len + 1

section
variable {P : Program} {ops : Array Oper} {Q : Exit → Act → World → Prop} {md : Region.Mode} {F : Nat → Bool}

def schedT (md : Region.Mode) (ops : Array Oper) (F : Nat → Bool) : Sch → Array Bool → Bool
  | .nil, listed => (Region.ready md ops listed).isEmpty
  | .cons i true r, listed => (Region.ready md ops listed).contains i && Region.free md ops listed i && earlyB md ops F listed i && schedT md ops F r (listed.setIfInBounds i true)
  | .cons i false r, listed => decide (Region.ready md ops listed = [i]) && schedT md ops F r (listed.setIfInBounds i true)
  | .two i j r s, listed => decide (Region.ready md ops listed = [i, j]) && decide (r.len = s.len) && schedT md ops F r (listed.setIfInBounds i true) && schedT md ops F s (listed.setIfInBounds j true)

def wpT (P : Program) (ops : Array Oper) (Q : Exit → Act → World → Prop) (F : Nat → Bool) : Sch → Act → World → Prop
  | .nil, a, w => Q .normal a w
  | .cons i true r, a, w => ∃ o v, ops[i]? = some o ∧ YieldsIf P ops (FL w) o v a ∧ wpT P ops Q F r (a.put o.dst v) w
  | .cons i false r, a, w => wpOp P ops Q i (fun a' w' => (F i = true → FL w w') ∧ wpT P ops Q F r a' w') a w
  | .two i j r s, a, w => wpOp P ops Q i (fun a' w' => (F i = true → FL w w') ∧ wpT P ops Q F r a' w') a w ∧ wpOp P ops Q j (fun a' w' => (F j = true → FL w w') ∧ wpT P ops Q F s a' w') a w

theorem wpD_of_T (hs : Region.noSelect ops = true) (hQ : ∀ c a d v w, Q (.panic c) (Act.put a d v) w → Q (.panic c) a w) : ∀ (s : Sch) (listed : Array Bool) (a : Act) (w : World), Closed md ops listed → schedT md ops F s listed = true →
    wpT P ops Q F s a w → wpD P md ops Q F s.len listed a w
  | .nil, listed, a, w, _, hB, h => ⟨by simpa [schedT] using hB, h⟩
  | .cons i true r, listed, a, w, hc, hB, h => by
    simp only [schedT, Bool.and_eq_true] at hB
    obtain ⟨⟨⟨h1, h2⟩, h3⟩, h4⟩ := hB
    obtain ⟨o, v, ho, hy, hr⟩ := h
    have hrd : i ∈ Region.ready md ops listed := by simpa using h1
    refine wpD_first (N := ops.size) ho (Region.noSelect_spec hs) (fun c a w => hQ c a o.dst v w) r.len listed a w hc (Region.free_spec ho h2) (fun j oj hj hne hun => ?_) hrd hy (wpD_of_T hs hQ r _ _ _ (hc.set hrd) h4 hr)
    have hlt : j < ops.size := (Array.getElem?_eq_some_iff.1 hj).1
    have := List.all_eq_true.1 h3 j (List.mem_range.2 hlt)
    simpa [hne, hun] using this
  | .cons i false r, listed, a, w, hc, hB, h => by
    simp only [schedT, Bool.and_eq_true, decide_eq_true_eq] at hB
    refine ⟨fun h0 => (by rw [hB.1] at h0; cases h0), fun j hj => ?_⟩
    have hj' := hj
    rw [hB.1] at hj
    obtain rfl : j = i := by simpa using hj
    exact wpOp_mono (fun a' w' h' => ⟨h'.1, wpD_of_T hs hQ r _ a' w' (hc.set hj') hB.2 h'.2⟩) h
  | .two i k r s, listed, a, w, hc, hB, h => by
    simp only [schedT, Bool.and_eq_true, decide_eq_true_eq] at hB
    obtain ⟨⟨⟨h1, h2⟩, h3⟩, h4⟩ := hB
    refine ⟨fun h0 => (by rw [h1] at h0; cases h0), fun j hj => ?_⟩
    have hj' := hj
    rw [h1] at hj
    have hj2 : j = i ∨ j = k := by simpa using hj
    rcases hj2 with rfl | rfl
    · exact wpOp_mono (fun a' w' h' => ⟨h'.1, wpD_of_T hs hQ r _ a' w' (hc.set hj') h3 h'.2⟩) h.1
    · refine wpOp_mono (fun a' w' h' => ⟨h'.1, ?_⟩) h.2
      rw [h2]
      exact wpD_of_T hs hQ s _ a' w' (hc.set hj') h4 h'.2

/-- A region that draws its order, by a schedule. -/
theorem wp_region_tree {id : Nat} {a : Act} {w : World} (hm : P.follows .mixedOrders = true) (s : Sch) (F : Nat → Bool)
    (hB : (Region.noSelect ops && decide (s.len = ops.size) && schedT .any ops F s (Array.replicate ops.size false)) = true)
    (hQ : ∀ c a d v w, Q (.panic c) (Act.put a d v) w → Q (.panic c) a w) (h : wpT P ops Q F s a w.drew) : (Code.region id ops true).wp P Q a w := by
  simp only [Bool.and_eq_true, decide_eq_true_eq] at hB
  obtain ⟨⟨h1, h2⟩, h3⟩ := hB
  refine wp_region_any hm (wpAny_of_D (F := F) _ _ _ _ ?_)
  rw [← h2]
  have := wpD_of_T (P := P) (md := .any) h1 hQ s (Array.replicate ops.size false) a w.drew Closed.start h3 h
  rw [← h2] at this
  exact this

theorem wpT_take {i : Nat} {o : Oper} {v : Value} {a a' : Act} {w : World} {r : Sch} (hi : ops[i]? = some o) (hy : YieldsIf P ops (FL w) o v a) (ha : a.put o.dst v = a') (h : wpT P ops Q F r a' w) : wpT P ops Q F (.cons i true r) a w :=
  ⟨o, v, hi, hy, ha ▸ h⟩
theorem wpT_skip {i j s : Nat} {b : Bool} {o oj : Oper} {a a' : Act} {w : World} {r : Sch} (hi : ops[i]? = some o) (hg : o.guard = some (j, b)) (hj : ops[j]? = some oj) (hd : oj.dst = some s) (hv : a.tmps[s]? = some (.bool (!b))) (ha : a.put o.dst undef = a')
    (h : wpT P ops Q F r a' w) : wpT P ops Q F (.cons i true r) a w :=
  wpT_take hi (Or.inr ⟨by cases b <;> simp [Region.wanted, hg, yielded, hj, hd, hv], rfl⟩) ha h
theorem wpOp_eff {X : Act → World → Prop} {i : Nat} {o : Oper} {a : Act} {w : World} (hi : ops[i]? = some o) (hw : Region.wanted o (yielded ops a.tmps) = true) (hF : F i = true)
    (h : ∀ K : Act → World → Prop, (∀ a' w', FL w w' → X a' w' → K a' w') → o.wp P a w K Q) : wpOp P ops Q i (fun a' w' => (F i = true → FL w w') ∧ X a' w') a w := by
  unfold wpOp
  simp only [hi, hw, if_true]
  exact .inl (h _ fun a' w' h1 h2 => ⟨fun _ => h1, h2⟩)
theorem wpT_eff {i : Nat} {o : Oper} {a : Act} {w : World} {r : Sch} (hi : ops[i]? = some o) (hw : Region.wanted o (yielded ops a.tmps) = true) (hF : F i = true)
    (h : ∀ K : Act → World → Prop, (∀ a' w', FL w w' → wpT P ops Q F r a' w' → K a' w') → o.wp P a w K Q) : wpT P ops Q F (.cons i false r) a w := wpOp_eff hi hw hF h
theorem wpT_two {i j : Nat} {oi oj : Oper} {a : Act} {w : World} {r s : Sch} (hi : ops[i]? = some oi) (hwi : Region.wanted oi (yielded ops a.tmps) = true) (hFi : F i = true) (hj : ops[j]? = some oj) (hwj : Region.wanted oj (yielded ops a.tmps) = true) (hFj : F j = true)
    (h1 : ∀ K : Act → World → Prop, (∀ a' w', FL w w' → wpT P ops Q F r a' w' → K a' w') → oi.wp P a w K Q)
    (h2 : ∀ K : Act → World → Prop, (∀ a' w', FL w w' → wpT P ops Q F s a' w' → K a' w') → oj.wp P a w K Q) : wpT P ops Q F (.two i j r s) a w := ⟨wpOp_eff hi hwi hFi h1, wpOp_eff hj hwj hFj h2⟩
/-- The last operations, as a list that the walk knows. -/
def Sch.seq : Nat → Nat → Sch
  | _, 0 => .nil
  | k, n + 1 => .cons k false (Sch.seq (k + 1) n)
theorem wpT_seq : ∀ (l : List Oper) (k : Nat) (a : Act) (w : World), (∀ j, j < l.length → l[j]? = ops[k + j]?) → (∀ j, k ≤ j → F j = false) → wpList P ops Q l a w → wpT P ops Q F (Sch.seq k l.length) a w
  | [], _, _, _, _, _, h => h
  | o :: l, k, a, w, hl, hF, h => by
    have h0 : ops[k]? = some o := by simpa using (hl 0 (by simp)).symm
    have hw : wpOp P ops Q k (wpList P ops Q l) a w := by unfold wpOp; simp only [h0]; exact h
    show wpOp P ops Q k _ a w
    exact wpOp_mono (fun a' w' h' => ⟨fun hf => (by rw [hF k (Nat.le_refl _)] at hf; cases hf), wpT_seq l (k + 1) a' w' (fun j hj => by have := hl (j + 1) (by simp; omega); simpa [Nat.add_assoc, Nat.add_comm 1 j] using this) (fun j hj => hF j (by omega)) h'⟩) hw
theorem wpT_tail (k : Nat) {a : Act} {w : World} (hF : ∀ j, k ≤ j → F j = false) (h : wpList P ops Q (ops.toList.drop k) a w) : wpT P ops Q F (Sch.seq k (ops.toList.drop k).length) a w :=
  wpT_seq _ k a w (fun j _ => by simp) hF h
theorem wpT_done {a : Act} {w : World} (h : Q .normal a w) : wpT P ops Q F .nil a w := h
end

end Go.Proofs.YtogeijhepjcbgaaGreatDoor
end
section
/- The abstract machine: what a call's slots and its own blocks hold, as plain data; how the model's world stands to it. No program in sight. -/
namespace Go.Proofs.YtogeijhepjcbgaaGreatDoor
open Go Go.RowKit

/-- A cell: a literal; a slice that is only read; a slice of the call's own (block name, stamp, number of elements, size); a pointer into a block of the call's own; a pointer to cells that are only read; anything. -/
inductive C where
  | lit (v : Value)
  | sh (sz n : Nat) (cs : List C)
  | own (nm st n sz : Nat)
  | ptr (nm st off : Nat)
  | sp (cs : List C)
  | dead
deriving Inhabited

/-- A block of the call's own. -/
structure Blk where
  st : Nat
  E : TypeId
  sz : Nat
  n : Nat
  cs : List C
deriving Inhabited

/-- The block that a slice or a map lies in. -/
def obk : Value → Option Nat
  | .slice (some a) _ _ => some a.block
  | .map (some r) => some r
  | _ => none
theorem obk_of_own {v : Value} {b : Nat} (h : v.ownBlock = some b) : obk v = some b := by
  cases v with
  | slice a n c => cases a <;> simp [Value.ownBlock] at h; subst h; rfl
  | _ => simp [Value.ownBlock] at h

/-- Where things stand: the world, the blocks of the call's own with their real slices, the next stamp; the blocks of before that stay. -/
structure Kx where
  base : Nat
  T : Nat → Prop
  w : World
  σ : Nat → Value
  H : Nat → Option Blk
  nx : Nat

/-- The blocks that stay as they are. -/
def Kx.S (κ : Kx) (b : Nat) : Prop := (κ.T b ∨ κ.base ≤ b) ∧ b < κ.w.heap.size ∧ ∀ nm B, κ.H nm = some B → obk (κ.σ nm) ≠ some b

mutual
def den (κ : Kx) (v : Value) : C → Prop
  | .lit x => v = x ∧ x.oneCell' = true
  | .sh sz n cs => ∃ a cap, v = .slice a n cap ∧ n ≤ cap ∧ cap ≤ maxLen ∧ (a = none → cap = 0) ∧ cs.length = n * sz ∧ (n = 0 ∨ ∃ b off, a = some ⟨b, off, none⟩ ∧ κ.S b ∧ denM κ b off cs)
  | .own nm st n sz => v.oneCell' = true ∧ st < κ.nx ∧ ∀ B, κ.H nm = some B → B.st = st → v = κ.σ nm ∧ B.n = n ∧ B.sz = sz
  | .ptr nm st off => v.oneCell' = true ∧ st < κ.nx ∧ ∀ B, κ.H nm = some B → B.st = st → ∃ b, (κ.σ nm).ownBlock = some b ∧ v = .pointer (some ⟨b, off, none⟩)
  | .sp cs => ∃ b off, v = .pointer (some ⟨b, off, none⟩) ∧ κ.S b ∧ denM κ b off cs
  | .dead => v.oneCell' = true
def denM (κ : Kx) (b off : Nat) : List C → Prop
  | [] => True
  | c :: cs => (∃ u, κ.w.cell? ⟨b, off, none⟩ = some u ∧ den κ u c) ∧ denM κ b (off + 1) cs
end

theorem den_one {κ : Kx} {v : Value} {c : C} (h : den κ v c) : v.oneCell' = true := by
  cases c <;> simp only [den] at h
  · rw [h.1]; exact h.2
  · obtain ⟨a, cap, rfl, _⟩ := h; rfl
  · exact h.1
  · exact h.1
  · obtain ⟨b, off, rfl, _⟩ := h; rfl
  · exact h

def denVs (κ : Kx) : List Value → List C → Prop
  | [], [] => True
  | v :: vs, c :: cs => den κ v c ∧ denVs κ vs cs
  | _, _ => False

theorem denVs.length {κ : Kx} : ∀ {vs : List Value} {cs : List C}, denVs κ vs cs → vs.length = cs.length
  | [], [], _ => rfl
  | _ :: _, _ :: _, h => congrArg (· + 1) (denVs.length h.2)
  | [], _ :: _, h => h.elim
  | _ :: _, [], h => h.elim
theorem denVs.get {κ : Kx} : ∀ {vs : List Value} {cs : List C} (_ : denVs κ vs cs) (i : Nat) {c : C}, cs[i]? = some c → ∃ v, vs[i]? = some v ∧ den κ v c
  | [], [], _, i, c, h => by simp at h
  | v :: _, _ :: _, h, 0, c, hc => by simp at hc; subst hc; exact ⟨v, rfl, h.1⟩
  | _ :: _, _ :: _, h, i + 1, c, hc => by simp at hc; simpa using denVs.get h.2 i hc
  | [], _ :: _, h, _, _, _ => h.elim
  | _ :: _, [], h, _, _, _ => h.elim
theorem denVs.one {κ : Kx} : ∀ {vs : List Value} {cs : List C}, denVs κ vs cs → ∀ v ∈ vs, v.oneCell' = true
  | [], [], _, v, hv => by simp at hv
  | u :: vs, _ :: _, h, v, hv => by
    rcases List.mem_cons.1 hv with rfl | hv
    · exact den_one h.1
    · exact denVs.one h.2 v hv
  | [], _ :: _, h, _, _ => h.elim
  | _ :: _, [], h, _, _ => h.elim
theorem denVs.append {κ : Kx} : ∀ {vs us : List Value} {cs ds : List C}, denVs κ vs cs → denVs κ us ds → denVs κ (vs ++ us) (cs ++ ds)
  | [], _, [], _, _, h => h
  | _ :: _, _, _ :: _, _, h, k => ⟨h.1, denVs.append h.2 k⟩
  | [], _, _ :: _, _, h, _ => h.elim
  | _ :: _, _, [], _, h, _ => h.elim
theorem denVs.drop {κ : Kx} : ∀ {vs : List Value} {cs : List C} (_ : denVs κ vs cs) (k : Nat), denVs κ (vs.drop k) (cs.drop k)
  | [], [], _, k => by simp [denVs]
  | _ :: _, _ :: _, h, 0 => h
  | _ :: _, _ :: _, h, k + 1 => denVs.drop h.2 k
  | [], _ :: _, h, _ => h.elim
  | _ :: _, [], h, _ => h.elim
theorem denVs.take {κ : Kx} : ∀ {vs : List Value} {cs : List C} (_ : denVs κ vs cs) (k : Nat), denVs κ (vs.take k) (cs.take k)
  | [], [], _, k => by simp [denVs]
  | _ :: _, _ :: _, h, 0 => trivial
  | _ :: _, _ :: _, h, k + 1 => ⟨h.1, denVs.take h.2 k⟩
  | [], _ :: _, h, _ => h.elim
  | _ :: _, [], h, _ => h.elim
theorem denVs.set {κ : Kx} : ∀ {vs : List Value} {cs : List C} (_ : denVs κ vs cs) (k : Nat) {v : Value} {c : C}, den κ v c → denVs κ (vs.set k v) (cs.set k c)
  | [], [], _, k, _, _, _ => by simp [denVs]
  | _ :: _, _ :: _, h, 0, _, _, d => ⟨d, h.2⟩
  | _ :: _, _ :: _, h, k + 1, _, _, d => ⟨h.1, denVs.set h.2 k d⟩
  | [], _ :: _, h, _, _, _, _ => h.elim
  | _ :: _, [], h, _, _, _, _ => h.elim

theorem denM.get {κ : Kx} {b : Nat} : ∀ {cs : List C} {off : Nat} (_ : denM κ b off cs) (i : Nat) {c : C}, cs[i]? = some c → ∃ u, κ.w.cell? ⟨b, off + i, none⟩ = some u ∧ den κ u c
  | [], _, _, i, c, h => by simp at h
  | _ :: _, _, h, 0, c, hc => by simp only [denM] at h; simp at hc; subst hc; exact h.1
  | _ :: _, off, h, i + 1, c, hc => by
    simp only [denM] at h
    simp at hc
    have := denM.get h.2 i hc
    rwa [Nat.add_right_comm] at this
theorem denM.drop {κ : Kx} {b : Nat} : ∀ {cs : List C} {off : Nat} (_ : denM κ b off cs) (k : Nat), denM κ b (off + k) (cs.drop k)
  | [], _, _, k => by simp [denM]
  | _ :: _, _, h, 0 => h
  | _ :: _, off, h, k + 1 => by
    simp only [denM] at h
    have := denM.drop h.2 k
    rwa [Nat.add_right_comm] at this
theorem denM.take {κ : Kx} {b : Nat} : ∀ {cs : List C} {off : Nat} (_ : denM κ b off cs) (k : Nat), denM κ b off (cs.take k)
  | [], _, _, k => by simp [denM]
  | _ :: _, _, _, 0 => by simp [denM]
  | _ :: _, off, h, k + 1 => by
    simp only [denM] at h
    rw [List.take_succ_cons]
    simp only [denM]
    exact ⟨h.1, denM.take h.2 k⟩
theorem denM.vals {κ : Kx} {b : Nat} : ∀ {cs : List C} {off : Nat} (_ : denM κ b off cs), ∃ us, denVs κ us cs ∧ ∀ j u, us[j]? = some u → κ.w.cell? ⟨b, off + j, none⟩ = some u
  | [], _, _ => ⟨[], trivial, fun j u h => by simp at h⟩
  | _ :: _, off, h => by
    simp only [denM] at h
    obtain ⟨⟨u, h1, h2⟩, h3⟩ := h
    obtain ⟨us, h4, h5⟩ := denM.vals h3
    refine ⟨u :: us, ⟨h2, h4⟩, fun j x hj => ?_⟩
    cases j with
    | zero => simp at hj; subst hj; exact h1
    | succ j => simp at hj; have := h5 j x hj; rwa [Nat.add_right_comm] at this
theorem denM.of_vals {κ : Kx} {b : Nat} : ∀ {cs : List C} {us : List Value} {off : Nat}, denVs κ us cs → (∀ j u, us[j]? = some u → κ.w.cell? ⟨b, off + j, none⟩ = some u) → denM κ b off cs
  | [], [], _, _, _ => by simp [denM]
  | _ :: _, u :: us, off, h, hc => by
    simp only [denM]
    refine ⟨⟨u, hc 0 u rfl, h.1⟩, denM.of_vals h.2 fun j x hj => ?_⟩
    have := hc (j + 1) x (by simpa using hj)
    rwa [Nat.add_right_comm]
  | [], _ :: _, _, h, _ => h.elim
  | _ :: _, [], _, h, _ => h.elim

/-- What stands in κ stands in κ'. -/
structure Ext (κ κ' : Kx) : Prop where
  nx : κ.nx ≤ κ'.nx
  sh : ∀ b, κ.S b → κ'.S b ∧ κ'.w.heap[b]? = κ.w.heap[b]?
  ow : ∀ nm B', κ'.H nm = some B' → κ.nx ≤ B'.st ∨ ∃ B, κ.H nm = some B ∧ B.st = B'.st ∧ B.sz = B'.sz ∧ B.n = B'.n ∧ κ'.σ nm = κ.σ nm

theorem Ext.refl (κ : Kx) : Ext κ κ := ⟨Nat.le_refl _, fun _ h => ⟨h, rfl⟩, fun _ B h => .inr ⟨B, h, rfl, rfl, rfl, rfl⟩⟩
theorem Ext.trans {a b c : Kx} (h : Ext a b) (k : Ext b c) : Ext a c := by
  refine ⟨Nat.le_trans h.nx k.nx, fun x hx => ⟨(k.sh x (h.sh x hx).1).1, ((k.sh x (h.sh x hx).1).2).trans (h.sh x hx).2⟩, fun nm B' hB' => ?_⟩
  rcases k.ow nm B' hB' with h1 | ⟨B, h1, h2, h3, h4, h5⟩
  · exact .inl (Nat.le_trans h.nx h1)
  · rcases h.ow nm B h1 with g1 | ⟨D, g1, g2, g3, g4, g5⟩
    · exact .inl (h2 ▸ g1)
    · exact .inr ⟨D, g1, g2.trans h2, g3.trans h3, g4.trans h4, h5.trans g5⟩

mutual
theorem den_ext {κ κ' : Kx} (h : Ext κ κ') : ∀ {c : C} {v : Value}, den κ v c → den κ' v c
  | .lit x, v, d => by simp only [den] at d ⊢; exact d
  | .sh sz n cs, v, d => by
    simp only [den] at d ⊢
    obtain ⟨a, cap, h1, h2, h3, h4, h5, h6⟩ := d
    refine ⟨a, cap, h1, h2, h3, h4, h5, ?_⟩
    rcases h6 with h6 | ⟨b, off, h6, h7, h8⟩
    · exact .inl h6
    · exact .inr ⟨b, off, h6, (h.sh b h7).1, denM_ext h (h.sh b h7).2 h8⟩
  | .own nm st n sz, v, d => by
    simp only [den] at d ⊢
    refine ⟨d.1, Nat.lt_of_lt_of_le d.2.1 h.nx, fun B' hB' hst => ?_⟩
    rcases h.ow nm B' hB' with h1 | ⟨B, h1, h2, h3, h4, h5⟩
    · exact absurd d.2.1 (by omega)
    · have := d.2.2 B h1 (h2.trans hst)
      exact ⟨this.1.trans h5.symm, h4.symm.trans this.2.1, h3.symm.trans this.2.2⟩
  | .ptr nm st off, v, d => by
    simp only [den] at d ⊢
    refine ⟨d.1, Nat.lt_of_lt_of_le d.2.1 h.nx, fun B' hB' hst => ?_⟩
    rcases h.ow nm B' hB' with h1 | ⟨B, h1, h2, h3, h4, h5⟩
    · exact absurd d.2.1 (by omega)
    · rw [h5]; exact d.2.2 B h1 (h2.trans hst)
  | .sp cs, v, d => by
    simp only [den] at d ⊢
    obtain ⟨b, off, h1, h2, h3⟩ := d
    exact ⟨b, off, h1, (h.sh b h2).1, denM_ext h (h.sh b h2).2 h3⟩
  | .dead, v, d => by simp only [den] at d ⊢; exact d
theorem denM_ext {κ κ' : Kx} (h : Ext κ κ') {b : Nat} (hb : κ'.w.heap[b]? = κ.w.heap[b]?) : ∀ {cs : List C} {off : Nat}, denM κ b off cs → denM κ' b off cs
  | [], off, _ => by simp [denM]
  | c :: cs, off, d => by
    simp only [denM] at d ⊢
    obtain ⟨⟨u, h1, h2⟩, h3⟩ := d
    exact ⟨⟨u, by rw [World.cell?_of_block (w := κ.w) hb]; exact h1, den_ext h h2⟩, denM_ext h hb h3⟩
end
theorem denVs_ext {κ κ' : Kx} (h : Ext κ κ') : ∀ {vs : List Value} {cs : List C}, denVs κ vs cs → denVs κ' vs cs
  | [], [], _ => trivial
  | _ :: _, _ :: _, d => ⟨den_ext h d.1, denVs_ext h d.2⟩
  | [], _ :: _, d => d.elim
  | _ :: _, [], d => d.elim

/-- What a slot holds: a cell; a struct or an array; several results; anything. -/
inductive A1 where
  | one (c : C)
  | agg (cs : List C)
deriving Inhabited
inductive AV where
  | val (a : A1)
  | tup (l : List A1)
  | dead
deriving Inhabited

def A1.cells : A1 → List C
  | .one c => [c]
  | .agg cs => cs
def den1 (κ : Kx) (v : Value) : A1 → Prop
  | .one c => den κ v c
  | .agg cs => ∃ vs : List Value, v = .agg vs.toArray ∧ denVs κ vs cs
def den1s (κ : Kx) : List Value → List A1 → Prop
  | [], [] => True
  | v :: vs, c :: cs => den1 κ v c ∧ den1s κ vs cs
  | _, _ => False
def denA (κ : Kx) (v : Value) : AV → Prop
  | .val a => den1 κ v a
  | .tup l => ∃ vs : List Value, v = .tuple vs.toArray ∧ den1s κ vs l
  | .dead => True
theorem den1_ext {κ κ' : Kx} (h : Ext κ κ') : ∀ {a : A1} {v : Value}, den1 κ v a → den1 κ' v a
  | .one _, _, d => den_ext h d
  | .agg _, _, ⟨vs, h1, h2⟩ => ⟨vs, h1, denVs_ext h h2⟩
theorem den1s_ext {κ κ' : Kx} (h : Ext κ κ') : ∀ {vs : List Value} {cs : List A1}, den1s κ vs cs → den1s κ' vs cs
  | [], [], _ => trivial
  | _ :: _, _ :: _, d => ⟨den1_ext h d.1, den1s_ext h d.2⟩
  | [], _ :: _, d => d.elim
  | _ :: _, [], d => d.elim
theorem denA_ext {κ κ' : Kx} (h : Ext κ κ') : ∀ {a : AV} {v : Value}, denA κ v a → denA κ' v a
  | .val _, _, d => den1_ext h d
  | .tup _, _, ⟨vs, h1, h2⟩ => ⟨vs, h1, den1s_ext h h2⟩
  | .dead, _, _ => trivial
theorem den1_cells {κ : Kx} : ∀ {a : A1} {v : Value}, den1 κ v a → denVs κ v.cells.toList a.cells
  | .one c, v, d => by
    have h1 := den_one d
    have : v.cells = #[v] := by cases v <;> simp_all [Value.oneCell', Value.cells]
    rw [this]; exact ⟨d, trivial⟩
  | .agg _, _, ⟨vs, h1, h2⟩ => by subst h1; simpa [Value.cells, A1.cells] using h2

end Go.Proofs.YtogeijhepjcbgaaGreatDoor
end
