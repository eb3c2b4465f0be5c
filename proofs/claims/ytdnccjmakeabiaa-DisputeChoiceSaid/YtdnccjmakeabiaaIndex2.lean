/- Index of both; SameInts: walked. -/
import Derived.Test.YtdnccjmakeabiaaIndex
namespace Go.Proofs.Ytdnccjmakeabiaa
open Go.RowKit

/-! ### Plain -/

/-- A choice has an option of each dispute. -/
def okc (l : List GDisp) (c : List Int) : Prop := c.length = l.length ∧ ∀ j (h : j < l.length) (h' : j < c.length), 0 ≤ c[j] ∧ c[j] < l[j].opts.length
def prodD (l : List GDisp) : Nat := l.foldr (fun d n => d.opts.length * n) 1
/-- The number of the choice c, from dispute i on. -/
def idxFrom : List GDisp → List Int → Int
  | d :: l, x :: c => idxFrom l c * d.opts.length + x
  | _, _ => 0

theorem cap_mul (a b : Nat) : cap4097 (cap4097 a * cap4097 b) = cap4097 ((a * b : Nat) : Int) := by
  unfold cap4097
  by_cases ha : 4097 < a
  · rw [if_pos (by omega : (4097 : Int) < (a : Int))]
    by_cases hb : b = 0
    · subst hb; simp
    · have h1 : 4097 * 1 ≤ a * b := Nat.mul_le_mul (by omega) (by omega)
      have h2 : 4098 * 1 ≤ a * b := Nat.mul_le_mul (by omega) (by omega)
      rw [if_pos (by omega : (4097 : Int) < ((a * b : Nat) : Int))]
      split
      · rfl
      · split at * <;> omega
  · rw [if_neg (by omega : ¬ (4097 : Int) < (a : Int))]
    by_cases hb : 4097 < b
    · rw [if_pos (by omega : (4097 : Int) < (b : Int))]
      by_cases ha0 : a = 0
      · subst ha0; simp
      · have h2 : 1 * 4098 ≤ a * b := Nat.mul_le_mul (by omega) (by omega)
        rw [if_pos (by omega : (4097 : Int) < ((a * b : Nat) : Int))]
        split
        · rfl
        · omega
    · rw [if_neg (by omega : ¬ (4097 : Int) < (b : Int)), Int.natCast_mul]

theorem cnt_fold (l : List GDisp) : ∀ n : Nat, l.foldl (fun n d => cntStep n d.opts.length) (cap4097 n) = cap4097 ((n * prodD l : Nat) : Int) := by
  induction l with
  | nil => intro n; simp [prodD]
  | cons d r ih =>
    intro n
    rw [List.foldl_cons]
    have e : cntStep (cap4097 n) d.opts.length = cap4097 ((n * d.opts.length : Nat) : Int) := by unfold cntStep; rw [cap_mul]
    rw [e, ih]
    show _ = cap4097 ((n * (d.opts.length * prodD r) : Nat) : Int)
    rw [Nat.mul_assoc]

theorem cnt_prod (l : List GDisp) : cnt l = cap4097 ((prodD l : Nat) : Int) := by
  have := cnt_fold l 1
  rw [Nat.one_mul] at this
  rw [← this]; rfl
theorem prod_of_cnt {l : List GDisp} (h : cnt l ≤ 4096) : (prodD l : Int) = cnt l ∧ prodD l ≤ 4096 := by
  have e := cnt_prod l
  unfold cap4097 at e
  split at e <;> omega

theorem idx_bd : ∀ (l : List GDisp) (c : List Int), okc l c → 0 ≤ idxFrom l c ∧ idxFrom l c < prodD l
  | [], _, _ => by simp [idxFrom, prodD]
  | d :: l, [], h => by have := h.1; simp at this
  | d :: l, x :: c, h => by
    have h0 := h.2 0 (by simp) (by simp)
    simp only [List.getElem_cons_zero] at h0
    have ih := idx_bd l c ⟨by have := h.1; simpa using this, fun j h1 h2 => by have := h.2 (j + 1) (by simpa using h1) (by simpa using h2); simpa using this⟩
    have e1 : idxFrom (d :: l) (x :: c) = idxFrom l c * d.opts.length + x := rfl
    have e2 : prodD (d :: l) = d.opts.length * prodD l := rfl
    rw [e1, e2]
    have h3 : (idxFrom l c + 1) * (d.opts.length : Int) ≤ (prodD l : Int) * (d.opts.length : Int) := Int.mul_le_mul_of_nonneg_right (by omega) (by omega)
    rw [Int.add_mul] at h3
    have h4 : 0 ≤ idxFrom l c * (d.opts.length : Int) := Int.mul_nonneg ih.1 (by omega)
    rw [Int.natCast_mul, Int.mul_comm (d.opts.length : Int)]
    omega

theorem prod_drop (l : List GDisp) (i : Nat) (h : ∀ j (h : j < l.length), 0 < l[j].opts.length) : prodD (l.drop i) ≤ prodD l := by
  induction l generalizing i with
  | nil => simp
  | cons d r ih =>
    cases i with
    | zero => simp
    | succ i =>
      have h0 := h 0 (by simp)
      simp only [List.getElem_cons_zero] at h0
      have h1 := ih i (fun j hj => by have := h (j + 1) (by simpa using hj); simpa using this)
      have e2 : prodD (d :: r) = d.opts.length * prodD r := rfl
      rw [List.drop_succ_cons, e2]
      exact Nat.le_trans h1 (Nat.le_mul_of_pos_left _ h0)

theorem okc_drop {l : List GDisp} {c : List Int} (h : okc l c) (i : Nat) : okc (l.drop i) (c.drop i) := by
  refine ⟨by simp [h.1], fun j h1 h2 => ?_⟩
  have := h.2 (i + j) (by simp at h1; omega) (by simp at h2; omega)
  simpa using this

theorem idx_step {l : List GDisp} {c : List Int} (i : Nat) (hi : i < l.length) (hi' : i < c.length) : idxFrom (l.drop i) (c.drop i) = idxFrom (l.drop (i + 1)) (c.drop (i + 1)) * l[i].opts.length + c[i] := by
  rw [List.drop_eq_getElem_cons hi, List.drop_eq_getElem_cons hi']; rfl

theorem idx_drop_bd {l : List GDisp} {c : List Int} (h : okc l c) (hc : cnt l ≤ 4096) (i : Nat) : 0 ≤ idxFrom (l.drop i) (c.drop i) ∧ idxFrom (l.drop i) (c.drop i) ≤ 4095 := by
  have h1 := idx_bd _ _ (okc_drop h i)
  have hpos : ∀ j (hj : j < l.length), 0 < l[j].opts.length := fun j hj => by have := h.2 j hj (by rw [h.1]; exact hj); omega
  have h2 := prod_drop l i hpos
  have h3 := (prod_of_cnt hc).2
  omega

/-! ### Walks -/

theorem _root_.Go.RowKit.Below.drewN {B : Nat} {a w : World} (h : Below B a w) (n : Nat) : Below B a (w.drewN n) := ⟨h.os, h.tape, h.output, h.size, h.block⟩

theorem ints_open {w : World} {S : Nat → Prop} {v : Value} {l : List Int} (hv : rSlice 1 rI64 w S [v] l) :
    ∃ a cap, v = .slice a l.length cap ∧ l.length ≤ cap ∧ cap ≤ maxLen ∧ (l = [] ∨ ∃ b off, a = some ⟨b, off, none⟩ ∧ rAt 1 rI64 w S b off l) := by
  obtain ⟨a, cap, hv, h1, h2, _, h4⟩ := hv
  simp only [List.cons.injEq, and_true] at hv
  exact ⟨a, cap, hv, h1, h2, h4⟩

/-- Equal, as the walk hands it on. -/
def sameB (x y : List Int) : Bool := decide (x = y)
theorem ret_bool {a b : Bool} (h : a = b) : Ending.returned (.bool a) = .returned (.bool b) := by rw [h]

set_option maxHeartbeats 400000 in
theorem sameInts_any (u v : Value) (x y : List Int) (w : World) (hu : rSlice 1 rI64 w (LT w.heap.size) [u] x) (hv : rSlice 1 rI64 w (LT w.heap.size) [v] y) :
    Calls Try.prog 13 #[u, v] w fun e w' => e = .returned (.bool (sameB x y)) ∧ Below w.heap.size w w' := by
  obtain ⟨a, cap, rfl, h1, h2, h4⟩ := ints_open hu
  obtain ⟨a', cap', rfl, h1', h2', h4'⟩ := ints_open hv
  have hn := len_le h1 h2
  have hn' := len_le h1' h2'
  by_cases hl : x.length = y.length
  · have hl' : (x.length != y.length) = false := by simp [hl]
    have HL : Hid _ := hl
    clear hl
    go_enter Try.func13, Try.ntmps13
    go_wp2
    go_loopw [5] (fun i wr => ∃ k : Nat, k ≤ x.length ∧ i = .int .i64 k ∧ Below w.heap.size w wr ∧ Hid (x.take k = y.take k)) (fun i _ => x.length - (intOf i).toNat)
    case atStart => exact ⟨0, Nat.zero_le _, rfl, Below.refl _ _, by simp [Hid]⟩
    case round =>
      obtain ⟨k, hk, rfl, hbel, HE⟩ := hrel
      by_cases hlt : k < x.length
      · have hlt' : k < y.length := by have := HL.out; omega
        rcases h4 with rfl | ⟨b, off, rfl, h4⟩
        · simp at hlt
        rcases h4' with rfl | ⟨b', off', rfl, h4'⟩
        · simp at hlt'
        have g0 := (h4.i64 hlt).1
        rw [← hbel.cell (p := ⟨b, off + k, none⟩) h4.1] at g0
        have g1 := (h4'.i64 hlt').1
        rw [← hbel.cell (p := ⟨b', off' + k, none⟩) h4'.1] at g1
        by_cases he : x[k] = y[k]
        · have he' : (x[k] != y[k]) = false := by simp [he]
          have HE2 : Hid _ := he
          clear he
          go_wp2
          go_quiet (fail)
          go_wp2
          go_roundw
          case rel => exact ⟨k + 1, by omega, by go_num, hbel.drewN _, by show x.take (k + 1) = y.take (k + 1); rw [List.take_succ_eq_append_getElem hlt, List.take_succ_eq_append_getElem hlt', HE.out, HE2.out]⟩
          case measure => simp [intOf]; omega
        · have he' : (x[k] != y[k]) = true := by simp [he]
          have hxy : Hid (sameB x y = false) := by show decide (x = y) = false; simp; rintro rfl; exact he rfl
          clear he
          go_wp2
          go_quiet (fail)
          go_wp2
          go_ret
          exact ⟨ret_bool hxy.out.symm, hbel.drewN _⟩
      · have hxy : Hid (sameB x y = true) := by
          show decide (x = y) = true
          have h1 := HE.out
          have h2 := HL.out
          rw [List.take_of_length_le (by omega), List.take_of_length_le (by omega)] at h1
          simp [h1]
        go_wp2
        go_ret
        exact ⟨ret_bool hxy.out.symm, hbel⟩
  · have hl' : (x.length != y.length) = true := by simp [hl]
    have hxy : Hid (sameB x y = false) := by show decide (x = y) = false; simp; rintro rfl; exact hl rfl
    clear hl
    go_enter Try.func13, Try.ntmps13
    go_wp2
    go_ret
    exact ⟨ret_bool hxy.out.symm, Below.refl _ _⟩

end Go.Proofs.Ytdnccjmakeabiaa
