/- Refunds, rates and what is kept, over rational numbers: plain. -/
import Derived.Test.YtgmedcncbpdimaaDoorQ1M
set_option linter.unusedVariables false
set_option linter.unusedSimpArgs false
section
/- Refunds, rates and what is kept, over rational numbers: plain. -/
namespace Go.Proofs.YtgmedcncbpdimaaDoor

def qpos (q : Rat) : Rat := if q < 0 then 0 else q
def qmin (a b : Rat) : Rat := if b < a then b else a
def gS (l : List Rat) : Nat → Rat
  | 0 => 0
  | k + 1 => gS l k + qpos (l.getD k 0)
def gO (w : Rat) (l : List Rat) (k : Nat) : Rat := qpos (gS l k - qpos w)
def gR (w : Rat) (l : List Rat) : List Rat := (List.range l.length).map fun k => gO w l (k + 1) - gO w l k
def gK (w : Rat) (l : List Rat) : Rat := qmin (qpos w) (gS l l.length)
def gV (w : Rat) (l s : List Rat) : Nat → Rat
  | 0 => 0
  | k + 1 => if gS l (k + 1) < qpos w then 0 else gS s (k + 1)
def gQ (w : Rat) (l s : List Rat) : List Rat := (List.range l.length).map fun k => gV w l s (k + 1) - gV w l s k

theorem gR_len (w : Rat) (l : List Rat) : (gR w l).length = l.length := by simp [gR]
theorem gQ_len (w : Rat) (l s : List Rat) : (gQ w l s).length = l.length := by simp [gQ]
theorem gR_get (w : Rat) (l : List Rat) (k : Nat) (h : k < l.length) : (gR w l).getD k 0 = gO w l (k + 1) - gO w l k := by
  simp [gR, List.getD, h]
theorem gQ_get (w : Rat) (l s : List Rat) (k : Nat) (h : k < l.length) : (gQ w l s).getD k 0 = gV w l s (k + 1) - gV w l s k := by
  simp [gQ, List.getD, h]

theorem qpos_ge (q : Rat) : 0 ≤ qpos q := by unfold qpos; grind
theorem qpos_of {q : Rat} (h : 0 ≤ q) : qpos q = q := by unfold qpos; grind
theorem qpos_zero : qpos 0 = 0 := by unfold qpos; grind
theorem gS_step (l : List Rat) (k : Nat) : gS l (k + 1) = gS l k + qpos (l.getD k 0) := rfl
theorem gS_mono (l : List Rat) {i k : Nat} (h : i ≤ k) : gS l i ≤ gS l k := by
  induction k with
  | zero => have : i = 0 := by omega
            subst this; exact Rat.le_refl
  | succ k ih =>
    rcases Nat.lt_or_ge k i with h1 | h1
    · have : i = k + 1 := by omega
      subst this; exact Rat.le_refl
    · have := ih h1
      have := qpos_ge (l.getD k 0)
      rw [gS_step]; grind
theorem gO_zero (w : Rat) (l : List Rat) : gO w l 0 = 0 := by
  have := qpos_ge w
  unfold gO qpos gS; unfold qpos at this; grind

def NonNeg (l : List Rat) : Prop := ∀ x ∈ l, 0 ≤ x
theorem NonNeg.get {l : List Rat} (h : NonNeg l) (k : Nat) : 0 ≤ l.getD k 0 := by
  rcases Nat.lt_or_ge k l.length with h1 | h1
  · simp only [List.getD, List.getElem?_eq_getElem h1, Option.getD_some]
    exact h _ (List.getElem_mem h1)
  · simp [List.getD, List.getElem?_eq_none h1]

/-- The principal debtor is relieved last. -/
theorem law_last {w : Rat} {l : List Rat} (hl : NonNeg l) {i k : Nat} (hik : i < k) (hk : k < l.length) (h : 0 < (gR w l).getD i 0) : (gR w l).getD k 0 = l.getD k 0 := by
  rw [gR_get _ _ _ (by omega)] at h
  rw [gR_get _ _ _ hk]
  have h1 := gS_mono l (show i + 1 ≤ k by omega)
  have h2 := qpos_of (hl.get k)
  have h3 := qpos_ge (gS l i - qpos w)
  have h4 := gS_step l k
  have h5 := qpos_ge (l.getD k 0)
  unfold gO at *
  rw [h2] at h4 h5
  generalize gS l (i + 1) = a at *
  generalize gS l i = a0 at *
  generalize gS l (k + 1) = b1 at *
  generalize gS l k = b at *
  generalize l.getD k 0 = x at *
  generalize qpos w = v at *
  unfold qpos at *
  grind

def gSum : List Rat → Nat → Rat
  | _, 0 => 0
  | l, k + 1 => gSum l k + l.getD k 0
theorem gSum_R (w : Rat) (l : List Rat) : ∀ k, k ≤ l.length → gSum (gR w l) k = gO w l k := by
  intro k
  induction k with
  | zero => intro _; rw [gO_zero]; rfl
  | succ k ih =>
    intro h
    show gSum (gR w l) k + (gR w l).getD k 0 = _
    rw [ih (by omega), gR_get _ _ _ (by omega)]
    grind
theorem gSum_S {l : List Rat} (hl : NonNeg l) : ∀ k, gSum l k = gS l k := by
  intro k
  induction k with
  | zero => rfl
  | succ k ih =>
    show gSum l k + l.getD k 0 = gS l k + qpos (l.getD k 0)
    rw [ih, qpos_of (hl.get k)]

theorem law_balance {w : Rat} {l : List Rat} (hw : 0 ≤ w) (hl : NonNeg l) : gSum (gR w l) l.length + gK w l = gSum l l.length ∧ gK w l ≤ w ∧ (gSum (gR w l) l.length = 0 ∨ gK w l = w) := by
  rw [gSum_R _ _ _ (Nat.le_refl _), gSum_S hl]
  unfold gO gK
  rw [qpos_of hw]
  generalize gS l l.length = s at *
  unfold qpos qmin
  grind
theorem law_balance1 {w : Rat} {l : List Rat} (hl : NonNeg l) {i : Nat} (hi : i < l.length) : 0 ≤ (gR w l).getD i 0 ∧ (gR w l).getD i 0 ≤ l.getD i 0 := by
  rw [gR_get _ _ _ hi]
  have h4 := gS_step l i
  have h5 := hl.get i
  rw [qpos_of h5] at h4
  unfold gO
  generalize gS l (i + 1) = b1 at *
  generalize gS l i = b at *
  generalize l.getD i 0 = x at *
  generalize qpos w = v at *
  unfold qpos at *
  grind

theorem getD_set (l : List Rat) (i k : Nat) (x : Rat) (hi : i < l.length) : (l.set i x).getD k 0 = if k = i then x else l.getD k 0 := by
  simp only [List.getD, List.getElem?_set]
  by_cases h : i = k
  · subst h; simp [hi]
  · rw [if_neg h, if_neg (fun e => h e.symm)]
theorem gS_set {l : List Rat} (hl : NonNeg l) {i : Nat} (hi : i < l.length) {m : Rat} (hm : 0 ≤ m) : ∀ k, gS (l.set i (l.getD i 0 + m)) k = if k ≤ i then gS l k else gS l k + m := by
  intro k
  induction k with
  | zero => rfl
  | succ k ih =>
    rw [gS_step, ih, gS_step, getD_set _ _ _ _ hi]
    have h1 := hl.get i
    by_cases h : k = i
    · subst h
      rw [if_pos (Nat.le_refl _), if_pos rfl, if_neg (by omega), qpos_of h1, qpos_of (by grind)]
      grind
    · rw [if_neg h]
      by_cases h2 : k ≤ i
      · rw [if_pos h2, if_pos (by omega)]
      · rw [if_neg h2, if_neg (by omega)]
        grind
theorem law_grows {w : Rat} {l : List Rat} (hl : NonNeg l) {i : Nat} (hi : i < l.length) {m : Rat} (hm : 0 ≤ m) :
    (∀ j, j < l.length → (gR w l).getD j 0 ≤ (gR w (l.set i (l.getD i 0 + m))).getD j 0) ∧ gK w l ≤ gK w (l.set i (l.getD i 0 + m)) := by
  constructor
  · intro j hj
    rw [gR_get _ _ _ hj, gR_get _ _ _ (by simpa using hj)]
    have h4 := gS_step l j
    have h5 := qpos_ge (l.getD j 0)
    unfold gO
    rw [gS_set hl hi hm, gS_set hl hi hm]
    generalize gS l (j + 1) = b1 at *
    generalize gS l j = b at *
    generalize qpos (l.getD j 0) = x at *
    generalize qpos w = v at *
    unfold qpos at *
    split <;> split <;> grind
  · unfold gK
    rw [gS_set hl hi hm, List.length_set]
    generalize qpos w = v at *
    unfold qmin
    split <;> grind

end Go.Proofs.YtgmedcncbpdimaaDoor
end
section
/- Refunds grow with the rates; amounts of the laws: plain. -/
namespace Go.Proofs.YtgmedcncbpdimaaDoor

def OnGrid (q : Rat) : Prop := ∃ z : Int, 60 * q = (z : Rat)
def qAmt (x : Nat) : Rat := if x % 5 = 0 then mkRat ((x / 5 % 23 : Nat) : Int) (1 + x / 115 % 6) else if x % 5 = 1 then (((10 * (x / 5 % 4) : Nat) : Int) : Rat) else (((x / 5 % 13 : Nat) : Int) : Rat)

theorem grid_mk (a : Int) (b c : Nat) (hb : b ≠ 0) (h : c * b = 60) : OnGrid (mkRat a b) := by
  refine ⟨a * c, ?_⟩
  rw [Rat.mkRat_eq_div]
  have hb' : (b : Rat) ≠ 0 := by
    intro h; exact hb (Rat.natCast_eq_zero_iff.1 h)
  have e : (60 : Rat) = (c : Rat) * (b : Rat) := by rw [← Rat.natCast_mul, h]; rfl
  rw [e, Rat.intCast_mul]
  have := Rat.div_mul_cancel (a := (a : Rat)) hb'
  have h2 : ((c : Int) : Rat) = (c : Rat) := rfl
  rw [h2]
  grind
theorem amt_grid (x : Nat) : OnGrid (qAmt x) := by
  unfold qAmt
  split
  · have : 1 + x / 115 % 6 = 1 ∨ 1 + x / 115 % 6 = 2 ∨ 1 + x / 115 % 6 = 3 ∨ 1 + x / 115 % 6 = 4 ∨ 1 + x / 115 % 6 = 5 ∨ 1 + x / 115 % 6 = 6 := by omega
    rcases this with h | h | h | h | h | h <;> rw [h]
    · exact grid_mk _ _ 60 (by decide) (by decide)
    · exact grid_mk _ _ 30 (by decide) (by decide)
    · exact grid_mk _ _ 20 (by decide) (by decide)
    · exact grid_mk _ _ 15 (by decide) (by decide)
    · exact grid_mk _ _ 12 (by decide) (by decide)
    · exact grid_mk _ _ 10 (by decide) (by decide)
  · split
    · exact ⟨60 * _, by rw [Rat.intCast_mul]; rfl⟩
    · exact ⟨60 * _, by rw [Rat.intCast_mul]; rfl⟩
theorem amt_nonneg (x : Nat) : 0 ≤ qAmt x := by
  unfold qAmt
  split
  · rw [Rat.mkRat_eq_div]
    rw [Rat.div_def]
    apply Rat.mul_nonneg
    · exact Rat.intCast_nonneg.2 (by omega)
    · apply Rat.le_of_lt
      rw [Rat.inv_pos]
      exact Rat.natCast_pos.2 (by omega)
  · split
    · exact Rat.intCast_nonneg.2 (by omega)
    · exact Rat.intCast_nonneg.2 (by omega)
theorem amt_le (x : Nat) : qAmt x ≤ 30 := by
  have e : (30 : Rat) = ((30 : Int) : Rat) := rfl
  unfold qAmt
  split
  · rw [Rat.le_iff, Rat.num_mkRat, Rat.den_mkRat]
    simp only [show ¬ (1 + x / 115 % 6 = 0) by omega, if_false, Int.natAbs_natCast]
    have h1 : ((x / 5 % 23 : Nat) : Int) / (((1 + x / 115 % 6).gcd (x / 5 % 23) : Nat) : Int) ≤ 30 := by
      refine Int.le_trans (Int.ediv_le_self _ (by omega)) (by omega)
    have h2 : 0 < (1 + x / 115 % 6) / (1 + x / 115 % 6).gcd (x / 5 % 23) := Nat.div_pos (Nat.gcd_le_left _ (by omega)) (Nat.gcd_pos_of_pos_left _ (by omega))
    have h3 : (30 : Rat).num = 30 := rfl
    have h4 : (30 : Rat).den = 1 := rfl
    rw [h3, h4]
    generalize ((x / 5 % 23 : Nat) : Int) / (((1 + x / 115 % 6).gcd (x / 5 % 23) : Nat) : Int) = a at *
    generalize (1 + x / 115 % 6) / (1 + x / 115 % 6).gcd (x / 5 % 23) = b at *
    omega
  · split
    · rw [e]; exact Rat.intCast_le_intCast.2 (by omega)
    · rw [e]; exact Rat.intCast_le_intCast.2 (by omega)
theorem amt_qB (x : Nat) : qB 1 (qAmt x) := by
  unfold qAmt
  split
  · exact qB_mkRat (by simp; omega) (by omega) (by decide)
  · split
    · exact ⟨by rw [Rat.num_intCast]; simp; omega, by rw [Rat.den_intCast]; decide⟩
    · exact ⟨by rw [Rat.num_intCast]; simp; omega, by rw [Rat.den_intCast]; decide⟩

theorem grid_S {l : List Rat} (hl : NonNeg l) (hg : ∀ x ∈ l, OnGrid x) : ∀ k, OnGrid (gS l k) := by
  intro k
  induction k with
  | zero => exact ⟨0, by simp [gS]⟩
  | succ k ih =>
    obtain ⟨z, hz⟩ := ih
    have h1 : OnGrid (l.getD k 0) := by
      rcases Nat.lt_or_ge k l.length with h1 | h1
      · simp only [List.getD, List.getElem?_eq_getElem h1, Option.getD_some]; exact hg _ (List.getElem_mem h1)
      · simp only [List.getD, List.getElem?_eq_none h1, Option.getD_none]; exact ⟨0, by simp⟩
    obtain ⟨y, hy⟩ := h1
    refine ⟨z + y, ?_⟩
    rw [gS_step, qpos_of (hl.get k), Rat.intCast_add]
    grind
theorem S_le {s : List Rat} (hs : NonNeg s) (hb : ∀ x ∈ s, x ≤ 30) : ∀ k, gS s k ≤ 30 * (k : Rat) := by
  intro k
  induction k with
  | zero => simp [gS]
  | succ k ih =>
    have h1 : s.getD k 0 ≤ 30 := by
      rcases Nat.lt_or_ge k s.length with h1 | h1
      · simp only [List.getD, List.getElem?_eq_getElem h1, Option.getD_some]; exact hb _ (List.getElem_mem h1)
      · simp only [List.getD, List.getElem?_eq_none h1, Option.getD_none]; grind
    rw [gS_step, qpos_of (hs.get k), Rat.natCast_add]
    have : ((1 : Nat) : Rat) = 1 := rfl
    grind
theorem grid_gap {a b : Rat} (ha : OnGrid a) (hb : OnGrid b) (h : a < b) : 60 * a + 1 ≤ 60 * b := by
  obtain ⟨x, hx⟩ := ha
  obtain ⟨y, hy⟩ := hb
  rw [hx, hy]
  have h1 : (x : Rat) < (y : Rat) := by grind
  have h2 : x < y := Rat.intCast_lt_intCast.1 h1
  have h3 : ((x + 1 : Int) : Rat) ≤ (y : Rat) := Rat.intCast_le_intCast.2 (by omega)
  rw [Rat.intCast_add] at h3
  exact h3

def more (h : Rat) (l s : List Rat) : List Rat := (List.range l.length).map fun i => l.getD i 0 + h * s.getD i 0
theorem more_get (h : Rat) (l s : List Rat) (i : Nat) (hi : i < l.length) : (more h l s).getD i 0 = l.getD i 0 + h * s.getD i 0 := by
  simp [more, List.getD, hi]
theorem S_more {l s : List Rat} (hl : NonNeg l) (hs : NonNeg s) {h : Rat} (hh : 0 ≤ h) : ∀ k, k ≤ l.length → gS (more h l s) k = gS l k + h * gS s k := by
  intro k
  induction k with
  | zero => intro _; simp [gS]; grind
  | succ k ih =>
    intro hk
    have h1 := hl.get k
    have h2 := Rat.mul_nonneg hh (hs.get k)
    rw [gS_step, ih (by omega), gS_step, gS_step, more_get _ _ _ _ (by omega), qpos_of h1, qpos_of (hs.get k), qpos_of (by grind)]
    grind

theorem law_deriv {w h : Rat} {l s : List Rat} (hw : 0 ≤ w) (hl : NonNeg l) (hs : NonNeg s) (gw : OnGrid w) (gl : ∀ x ∈ l, OnGrid x) (bs : ∀ x ∈ s, x ≤ 30) (hn : l.length ≤ 6) (hh : 0 ≤ h) (hh2 : h * 180 * 60 ≤ 1) {i : Nat} (hi : i < l.length) :
    (gR w l).getD i 0 + h * (gQ w l s).getD i 0 = (gR w (more h l s)).getD i 0 := by
  have key : ∀ k, k ≤ l.length → gO w (more h l s) k = gO w l k + h * gV w l s k := by
    intro k hk
    cases k with
    | zero => rw [gO_zero, gO_zero]; show (0 : Rat) = 0 + h * 0; rw [Rat.mul_zero, Rat.add_zero]
    | succ k =>
      unfold gO
      rw [S_more hl hs hh _ hk, qpos_of hw]
      simp only [gV]
      rw [qpos_of hw]
      have h1 := grid_S hl gl (k + 1)
      have h2 := S_le hs bs (k + 1)
      have h3 : ((k + 1 : Nat) : Rat) ≤ 6 := by
        have : ((k + 1 : Nat) : Rat) ≤ ((6 : Nat) : Rat) := Rat.natCast_le_natCast.2 (by omega)
        exact this
      have h4 : 0 ≤ gS s (k + 1) := gS_mono s (Nat.zero_le (k + 1))
      have h5 : h * gS s (k + 1) ≤ h * 180 := Rat.mul_le_mul_of_nonneg_left (by grind) hh
      have h6 := Rat.mul_nonneg hh h4
      have h7 : gS l (k + 1) < w → 60 * gS l (k + 1) + 1 ≤ 60 * w := grid_gap h1 gw
      generalize gS l (k + 1) = a at *
      generalize gS s (k + 1) = b at *
      by_cases hlt : a < w
      · have := h7 hlt
        rw [if_pos hlt, Rat.mul_zero, Rat.add_zero]
        generalize h * b = c at *
        unfold qpos
        grind
      · rw [if_neg hlt]
        generalize h * b = c at *
        unfold qpos
        grind
  rw [gR_get _ _ _ hi, gQ_get _ _ _ _ hi, gR_get _ _ _ (by simpa [more] using hi), key _ (by omega), key _ (by omega)]
  grind

end Go.Proofs.YtgmedcncbpdimaaDoor
end
