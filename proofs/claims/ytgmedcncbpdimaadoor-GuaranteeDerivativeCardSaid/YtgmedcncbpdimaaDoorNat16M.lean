/- natural: plain facts of the long division. -/
import Derived.Test.YtgmedcncbpdimaaDoorNat14M
import Derived.Test.YtgmedcncbpdimaaDoorKnuthM
import Derived.Lib.BitFns
set_option linter.unusedVariables false
set_option linter.unusedSimpArgs false
/- natural: plain facts of the long division. -/
namespace Go.Proofs.YtgmedcncbpdimaaDoor
open Go.RowKit

theorem bitLen_log2 {t : Nat} (h0 : 0 < t) (h : t < 4294967296) : Lib.bitLen t = Nat.log2 t + 1 := by
  have h1 : 2 ^ Nat.log2 t ≤ t := Nat.log2_self_le (by omega)
  have h2 : t < 2 ^ (Nat.log2 t + 1) := Nat.lt_log2_self
  rw [Lib.bitLen_shift _ t h1 (by omega)]
  have : t / 2 ^ Nat.log2 t = 1 := by
    apply Nat.div_eq_of_lt_le
    · omega
    · rw [Nat.pow_succ] at h2; omega
  rw [this]
  have : Lib.bitLen 1 = 1 := by decide +kernel
  omega

/-- The shift that sets the highest bit. -/
theorem lead_shift {t s : Nat} (h0 : 0 < t) (h : t < 4294967296) (hs : s = 32 - Lib.bitLen t) : s < 32 ∧ 2147483648 ≤ t * 2 ^ s ∧ (t + 1) * 2 ^ s ≤ 4294967296 := by
  rw [bitLen_log2 h0 h] at hs
  have h1 : 2 ^ Nat.log2 t ≤ t := Nat.log2_self_le (by omega)
  have h2 : t < 2 ^ (Nat.log2 t + 1) := Nat.lt_log2_self
  have h3 : Nat.log2 t < 32 := (Nat.log2_lt (by omega)).2 (by omega)
  generalize Nat.log2 t = L at *
  refine ⟨by omega, ?_, ?_⟩
  · have := Nat.mul_le_mul_right (2 ^ s) h1
    rw [← Nat.pow_add, show L + s = 31 by omega] at this
    simpa using this
  · have := Nat.mul_le_mul_right (2 ^ s) (show t + 1 ≤ 2 ^ (L + 1) from h2)
    rw [← Nat.pow_add, show L + 1 + s = 32 by omega] at this
    simpa using this

theorem limbsOf_last {n : Nat} (h : n ≠ 0) : 0 < (limbsOf n).getD ((limbsOf n).length - 1) 0 := by
  have hp := limbsOf_len_pos (n := n) (by omega)
  rcases Nat.eq_zero_or_pos ((limbsOf n).getD ((limbsOf n).length - 1) 0) with h0 | h0
  · exfalso
    have h1 := take_succ_getD (limbsOf n) ((limbsOf n).length - 1)
    rw [h0, Nat.mul_zero, show (limbsOf n).length - 1 + 1 = (limbsOf n).length by omega, List.take_of_length_le (Nat.le_refl _), limbsVal_limbsOf] at h1
    simp only [Nat.add_zero] at h1
    have h2 := limbsVal_lt (xs := (limbsOf n).take ((limbsOf n).length - 1)) (fun x hx => limbsOf_lt n x (List.mem_of_mem_take hx))
    rw [List.length_take, Nat.min_eq_left (by omega), ← h1] at h2
    have := limbsOf_len_le h2
    omega
  · exact h0

/-- What the shifted divisor is. -/
theorem div_norm {y n t s : Nat} (hn : (limbsOf y).length = n) (hn1 : 1 ≤ n) (ht : t = (limbsOf y).getD (n - 1) 0) (hs : s = 32 - Lib.bitLen t) :
    s < 32 ∧ y * 2 ^ s < 4294967296 ^ n ∧ 4294967296 ^ (n - 1) * 2147483648 ≤ y * 2 ^ s := by
  have hy0 : y ≠ 0 := fun h => by subst h; rw [limbsOf_zero] at hn; simp at hn; omega
  have ht0 : 0 < t := by rw [ht, ← hn]; exact limbsOf_last hy0
  have htW : t < 4294967296 := by
    rw [ht]
    have hl : n - 1 < (limbsOf y).length := by omega
    simp only [List.getD, List.getElem?_eq_getElem hl, Option.getD_some]
    exact limbsOf_lt y _ (List.getElem_mem hl)
  obtain ⟨a, b, c⟩ := lead_shift ht0 htW hs
  have h1 := take_succ_getD (limbsOf y) (n - 1)
  rw [show n - 1 + 1 = n by omega, List.take_of_length_le (by omega), limbsVal_limbsOf, ← ht] at h1
  have h2 := limbsVal_lt (xs := (limbsOf y).take (n - 1)) (fun x hx => limbsOf_lt y x (List.mem_of_mem_take hx))
  rw [List.length_take, Nat.min_eq_left (by omega)] at h2
  have hP : 4294967296 ^ n = 4294967296 ^ (n - 1) * 4294967296 := by rw [← Nat.pow_succ]; congr 1; omega
  rw [hP]
  clear hP
  generalize 4294967296 ^ (n - 1) = P at *
  generalize limbsVal ((limbsOf y).take (n - 1)) = lo at *
  have hp := Nat.pow_pos (n := s) (show 0 < 2 by decide)
  generalize 2 ^ s = q at *
  refine ⟨a, ?_, ?_⟩
  · have e1 : y < P * (t + 1) := by rw [Nat.mul_add]; omega
    calc y * q < P * (t + 1) * q := Nat.mul_lt_mul_of_pos_right e1 hp
      _ = P * ((t + 1) * q) := Nat.mul_assoc _ _ _
      _ ≤ P * 4294967296 := Nat.mul_le_mul_left _ c
  · calc P * 2147483648 ≤ P * (t * q) := Nat.mul_le_mul_left _ b
      _ = P * t * q := (Nat.mul_assoc _ _ _).symm
      _ ≤ y * q := Nat.mul_le_mul_right _ (by omega)

theorem div_top {n D : Nat} (hn1 : 1 ≤ n) (h : 4294967296 ^ (n - 1) * 2147483648 ≤ D) {ds : List Nat} (hd : ds.length = n) (hlt : ∀ x ∈ ds, x < 4294967296) (hv : limbsVal ds = D) : 2147483648 ≤ ds.getD (n - 1) 0 := by
  have h1 := take_succ_getD ds (n - 1)
  rw [show n - 1 + 1 = n by omega, List.take_of_length_le (by omega), hv] at h1
  have h2 := limbsVal_lt (xs := ds.take (n - 1)) (fun x hx => hlt x (List.mem_of_mem_take hx))
  rw [List.length_take, Nat.min_eq_left (by omega)] at h2
  generalize 4294967296 ^ (n - 1) = P at *
  generalize ds.getD (n - 1) 0 = t at *
  generalize limbsVal (ds.take (n - 1)) = lo at *
  rcases Nat.lt_or_ge t 2147483648 with h3 | h3
  · exfalso
    have := Nat.mul_le_mul_left P (show t + 1 ≤ 2147483648 from h3)
    rw [Nat.mul_add] at this
    omega
  · exact h3

/-- The dividend's start. -/
theorem div_start {X x m n s D : Nat} {ou : List Nat} (hx : x < 4294967296 ^ m) (hX : X = x * 2 ^ s) (hs : s < 32) (hn1 : 1 ≤ n) (hnm : n ≤ m) (hD : 4294967296 ^ (n - 1) * 2147483648 ≤ D) (hl : ou.length = m + 1) (hlt : ∀ x ∈ ou, x < 4294967296) (hv : limbsVal ou = X) :
    limbsVal (ou.drop (m - n + 1)) < D := by
  have h1 := limbsVal_split ou (m - n + 1) (by omega)
  have hp := pow2_lt hs
  have e : 4294967296 ^ m = 4294967296 ^ (m - n + 1) * 4294967296 ^ (n - 1) := by rw [← Nat.pow_add]; congr 1; omega
  have hP := ww_pos (m - n + 1)
  rw [e] at hx
  rw [hv, hX] at h1
  clear e
  generalize 4294967296 ^ (m - n + 1) = P at *
  generalize 4294967296 ^ (n - 1) = R at *
  generalize limbsVal (ou.drop (m - n + 1)) = d at *
  have h2 : x * 2 ^ s < P * R * 2 ^ s := Nat.mul_lt_mul_of_pos_right hx (Nat.pow_pos (by decide))
  have h3 : P * R * 2 ^ s ≤ P * R * 2147483648 := Nat.mul_le_mul_left _ hp
  have h4 : P * d < P * (R * 2147483648) := by rw [← Nat.mul_assoc]; omega
  exact Nat.lt_of_lt_of_le (Nat.lt_of_mul_lt_mul_left h4) hD

/-- Limbs above: if the value is below W^n, the limbs from n on are naught. -/
theorem drop_zero {o : List Nat} {n : Nat} (hn : n ≤ o.length) (h : limbsVal o < 4294967296 ^ n) : limbsVal (o.drop n) = 0 ∧ limbsVal (o.take n) = limbsVal o := by
  have h1 := limbsVal_split o n hn
  rcases Nat.eq_zero_or_pos (limbsVal (o.drop n)) with h0 | h0
  · rw [h0, Nat.mul_zero] at h1
    exact ⟨h0, by omega⟩
  · have := Nat.mul_le_mul_left (4294967296 ^ n) h0
    rw [Nat.mul_one] at this
    omega

/-- One round of the long division: the window's value, and what the round leaves. -/
theorem div_window {ou : List Nat} {n D N k : Nat} (hl : ou.length = N) (hk : k + 1 + n ≤ N) (hlt : ∀ x ∈ ou, x < 4294967296) (hD : D < 4294967296 ^ n) (hi : limbsVal (ou.drop (k + 1)) < D) :
    limbsVal ((ou.drop k).take (n + 1)) = limbsVal (ou.drop k) ∧ limbsVal (ou.drop (k + n + 1)) = 0 ∧ limbsVal (ou.drop k) < 4294967296 * D := by
  have e1 : (ou.drop (k + 1)).drop n = ou.drop (k + n + 1) := by rw [List.drop_drop]; congr 1; omega
  have h1 := drop_zero (o := ou.drop (k + 1)) (n := n) (by simp; omega) (by omega)
  rw [e1] at h1
  have e2 : (ou.drop k).drop (n + 1) = ou.drop (k + n + 1) := by rw [List.drop_drop]; rfl
  have h2 := limbsVal_split (ou.drop k) (n + 1) (by simp; omega)
  rw [e2, h1.1, Nat.mul_zero] at h2
  refine ⟨by omega, h1.1, ?_⟩
  have hk' : k < ou.length := by omega
  have h3 : ou.drop k = ou[k] :: ou.drop (k + 1) := List.drop_eq_getElem_cons hk'
  have h4 := hlt _ (List.getElem_mem hk')
  rw [h3]
  show ou[k] + 4294967296 * limbsVal (ou.drop (k + 1)) < _
  generalize limbsVal (ou.drop (k + 1)) = d at *
  omega

theorem drop_eq_of {o o' : List Nat} {k : Nat} (hl : o.length = o'.length) (h : ∀ j, k ≤ j → o'.getD j 0 = o.getD j 0) : o'.drop k = o.drop k := by
  apply List.ext_getElem?
  intro i
  simp only [List.getElem?_drop]
  have := h (k + i) (by omega)
  simp only [List.getD] at this
  rcases Nat.lt_or_ge (k + i) o.length with h1 | h1
  · rw [List.getElem?_eq_getElem h1, List.getElem?_eq_getElem (by omega : k + i < o'.length)] at this ⊢
    simpa using this
  · rw [List.getElem?_eq_none h1, List.getElem?_eq_none (by omega : o'.length ≤ k + i)]
theorem take_eq_of {o o' : List Nat} {k : Nat} (hl : o.length = o'.length) (h : ∀ j, j < k → o'.getD j 0 = o.getD j 0) : o'.take k = o.take k := by
  apply List.ext_getElem?
  intro i
  simp only [List.getElem?_take]
  split
  · rename_i hi
    have := h i hi
    simp only [List.getD] at this
    rcases Nat.lt_or_ge i o.length with h1 | h1
    · rw [List.getElem?_eq_getElem h1, List.getElem?_eq_getElem (by omega : i < o'.length)] at this ⊢
      simpa using this
    · rw [List.getElem?_eq_none h1, List.getElem?_eq_none (by omega : o'.length ≤ i)]
  · rfl

theorem div_round {X D N Nq n k : Nat} {ou ou' oq : List Nat} (hl : ou.length = N) (hl' : ou'.length = N) (hq : oq.length = Nq) (hkq : k < Nq) (hk : k + 1 + n ≤ N) (hlt : ∀ x ∈ ou, x < 4294967296) (hD : D < 4294967296 ^ n) (hD0 : 0 < D)
    (hi : limbsVal (ou.drop (k + 1)) < D) (hX : X = limbsVal (oq.drop (k + 1)) * 4294967296 ^ (k + 1) * D + limbsVal ou) (hout : ∀ j, j < k ∨ k + n < j → ou'.getD j 0 = ou.getD j 0) (hw : limbsVal ((ou'.drop k).take (n + 1)) = limbsVal ((ou.drop k).take (n + 1)) % D) :
    limbsVal (ou'.drop k) < D ∧ X = limbsVal ((oq.set k (limbsVal ((ou.drop k).take (n + 1)) / D)).drop k) * 4294967296 ^ k * D + limbsVal ou' := by
  obtain ⟨w1, w2, w3⟩ := div_window hl hk hlt hD hi
  rw [w1] at hw ⊢
  have e1 : ou'.drop (k + n + 1) = ou.drop (k + n + 1) := drop_eq_of (by omega) fun j hj => hout j (.inr (by omega))
  have e2 : ou'.take k = ou.take k := take_eq_of (by omega) fun j hj => hout j (.inl hj)
  have e3 : (ou'.drop k).drop (n + 1) = ou'.drop (k + n + 1) := by rw [List.drop_drop]; rfl
  have h2 := limbsVal_split (ou'.drop k) (n + 1) (by simp; omega)
  rw [e3, e1, w2, Nat.mul_zero, hw] at h2
  have hd' : limbsVal (ou'.drop k) = limbsVal (ou.drop k) % D := by omega
  have h3 := limbsVal_split ou k (by omega)
  have h4 := limbsVal_split ou' k (by omega)
  rw [e2, hd'] at h4
  have h5 : ((oq.set k (limbsVal (ou.drop k) / D)).drop k) = (limbsVal (ou.drop k) / D) :: oq.drop (k + 1) := by
    rw [List.drop_eq_getElem_cons (by simp; omega)]
    congr 1
    · simp
    · rw [List.drop_set_of_lt (by omega)]
  rw [h5]
  have hmod := Nat.mod_lt (limbsVal (ou.drop k)) hD0
  have hdm := Nat.div_add_mod (limbsVal (ou.drop k)) D
  refine ⟨by omega, ?_⟩
  show X = (limbsVal (ou.drop k) / D + 4294967296 * limbsVal (oq.drop (k + 1))) * _ * D + _
  rw [hX, h3, h4, Nat.pow_succ]
  generalize limbsVal (ou.drop k) / D = q at *
  generalize limbsVal (ou.drop k) % D = r at *
  rw [← hdm]
  generalize limbsVal (ou.take k) = lo
  generalize limbsVal (oq.drop (k + 1)) = Q
  generalize 4294967296 ^ k = P
  generalize 4294967296 = W
  simp only [Nat.add_mul, Nat.mul_add]
  simp only [Nat.mul_comm, Nat.mul_left_comm]
  omega

/-- The end of the long division. -/
theorem div_end {x y s Q R : Nat} (hy : 0 < y) (h : x * 2 ^ s = Q * 4294967296 ^ 0 * (y * 2 ^ s) + R) (hR : R < y * 2 ^ s) : Q = x / y ∧ R / 2 ^ s = x % y := by
  have hp := Nat.pow_pos (n := s) (show 0 < 2 by decide)
  rw [Nat.pow_zero, Nat.mul_one] at h
  have h1 : x * 2 ^ s / (y * 2 ^ s) = x / y := Nat.mul_div_mul_right _ _ hp
  have h2 : x * 2 ^ s % (y * 2 ^ s) = x % y * 2 ^ s := Nat.mul_mod_mul_right _ _ _
  have h3 : x * 2 ^ s / (y * 2 ^ s) = Q := by
    apply Nat.div_eq_of_lt_le
    · omega
    · rw [Nat.add_mul]; omega
  have h4 : x * 2 ^ s % (y * 2 ^ s) = R := by
    have := Nat.div_add_mod (x * 2 ^ s) (y * 2 ^ s)
    rw [h3, Nat.mul_comm (y * 2 ^ s) Q] at this
    omega
  refine ⟨by omega, ?_⟩
  rw [← h4, h2]
  exact Nat.mul_div_cancel _ hp

theorem OwnL.sliceS {w : World} {g n : Nat} {o : List Nat} (h : OwnL w g n o) (hn : n ≤ 9223372036854775807) {S : Nat → Prop} (hS : S g) : rSlice 1 rU32 w S [.slice (some ⟨g, 0, none⟩) n n] o := by
  obtain ⟨h1, h2, f, h3, h4⟩ := h
  refine ⟨some ⟨g, 0, none⟩, n, by rw [h1], by omega, by unfold maxLen; omega, by simp, .inr ⟨g, 0, rfl, hS, fun j hj => ⟨[f j], rfl, ?_, ?_⟩⟩⟩
  · intro c hc
    obtain rfl : c = 0 := by simp at hc; omega
    simpa using h3.cell (by omega)
  · refine ⟨?_, h2 _ (List.getElem_mem hj)⟩
    rw [h4 j]
    simp [List.getD, hj]

/-- The first k limbs, resliced. -/
theorem OwnL.take {w : World} {g n k : Nat} {o : List Nat} (h : OwnL w g n o) (hk : k ≤ n) (hn : n ≤ 9223372036854775807) {S : Nat → Prop} (hS : S g) : rSlice 1 rU32 w S [.slice (some ⟨g, 0, none⟩) k n] (o.take k) := by
  obtain ⟨h1, h2, f, h3, h4⟩ := h
  have hl : (o.take k).length = k := by simp; omega
  refine ⟨some ⟨g, 0, none⟩, n, by rw [hl], by omega, by unfold maxLen; omega, by simp, .inr ⟨g, 0, rfl, hS, fun j hj => ⟨[f j], rfl, ?_, ?_⟩⟩⟩
  · intro c hc
    obtain rfl : c = 0 := by simp at hc; omega
    simpa using h3.cell (by omega)
  · rw [List.getElem_take]
    refine ⟨?_, h2 _ (List.getElem_mem (by omega))⟩
    rw [h4 j]
    simp [List.getD, show j < o.length by omega]

theorem OwnL.grown {w w' : World} {g gu n : Nat} {o : List Nat} (h : OwnL w g n o) (hg : w.grownBy w' (some gu)) (hne : g ≠ gu) : OwnL w' g n o := by
  obtain ⟨h1, h2, f, h3, h4⟩ := h
  have hlt := h3.lt
  refine ⟨h1, h2, f, ?_, h4⟩
  unfold Own at *
  rw [hg.block g hlt (fun e => hne (Option.some.inj e))]; exact h3

theorem OwnL.other {w : World} {g g' n : Nat} {o : List Nat} (h : OwnL w g n o) (hne : g' ≠ g) (p : Nat) (v : Value) : OwnL (w.setCell ⟨g', p, none⟩ v) g n o := ⟨h.1, h.2.1, _, h.2.2.choose_spec.1.other hne p v, h.2.2.choose_spec.2⟩
theorem OwnL.alloc {w : World} {g n : Nat} {o : List Nat} (h : OwnL w g n o) (b : Obj) : OwnL (w.alloc b) g n o := ⟨h.1, h.2.1, _, h.2.2.choose_spec.1.alloc b, h.2.2.choose_spec.2⟩

theorem grown_below {w w' : World} {B g : Nat} (h : w.grownBy w' (some g)) (hg : B ≤ g) (hB : B ≤ w.heap.size) : Below B w w' :=
  ⟨h.os, h.tape, h.output, h.size, fun b hb => h.block b (by omega) (fun e => by have := Option.some.inj e; omega)⟩

end Go.Proofs.YtgmedcncbpdimaaDoor
