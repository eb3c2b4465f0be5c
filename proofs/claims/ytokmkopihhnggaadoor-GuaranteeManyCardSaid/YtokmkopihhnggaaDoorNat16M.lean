/- natural: plain facts of the long division. -/
import Derived.Test.YtokmkopihhnggaaDoorRef6M
import Derived.Lib.BitFns
import Derived.StillTailTactics
import Derived.Test.YtokmkopihhnggaaDoorNumM
import Derived.Handy
import Derived.Test.YtokmkopihhnggaaDoorBaseM
set_option linter.unusedVariables false
set_option linter.unusedSimpArgs false
set_option linter.defProp false
set_option linter.unnecessarySimpa false
section
/- natural: plain facts of the long division. -/
namespace Go.Proofs.YtokmkopihhnggaaDoor
open Go.RowKit
theorem bitLen_log2 {t : Nat} (h0 : 0 < t) (h : t < 4294967296) : Lib.bitLen t = Nat.log2 t + 1 := by
  have h1 : 2 ^ Nat.log2 t ≤ t := Nat.log2_self_le (by omega)
  have h2 : t < 2 ^ (Nat.log2 t + 1) := Nat.lt_log2_self
  rw [Lib.bitLen_shift _ t h1 (by omega)]
  have : t / 2 ^ Nat.log2 t = 1 := by
    apply Nat.div_eq_of_lt_le
    · omega
    rw [Nat.pow_succ] at h2; omega
  rw [this]
  have : Lib.bitLen 1 = 1 := by decide +kernel
  omega
theorem lead_shift {t s : Nat} (h0 : 0 < t) (h : t < 4294967296) (hs : s = 32 - Lib.bitLen t) : s < 32 ∧ 2147483648 ≤ t * 2 ^ s ∧ (t + 1) * 2 ^ s ≤ 4294967296 := by
  rw [bitLen_log2 h0 h] at hs
  have h1 : 2 ^ Nat.log2 t ≤ t := Nat.log2_self_le (by omega)
  have h2 : t < 2 ^ (Nat.log2 t + 1) := Nat.lt_log2_self
  have h3 : Nat.log2 t < 32 := (Nat.log2_lt (by omega)).2 (by omega)
  generalize Nat.log2 t = L at *
  refine ⟨by omega, ?_, ?_⟩
  · have := Nat.mul_le_mul_right (2 ^ s) h1
    rw [← Nat.pow_add, show L + s = 31 by omega] at this
    simpa using this
  have := Nat.mul_le_mul_right (2 ^ s) (show t + 1 ≤ 2 ^ (L + 1) from h2)
  rw [← Nat.pow_add, show L + 1 + s = 32 by omega] at this
  simpa using this
theorem limbsOf_last {n : Nat} (h : n ≠ 0) : 0 < (limbsOf n).getD ((limbsOf n).length - 1) 0 := by
  have hp := limbsOf_len_pos (n := n) (by omega)
  rcases Nat.eq_zero_or_pos ((limbsOf n).getD ((limbsOf n).length - 1) 0) with h0 | h0
  · exfalso
    have h1 := take_succ_getD (limbsOf n) ((limbsOf n).length - 1)
    rw [h0, Nat.mul_zero, show (limbsOf n).length - 1 + 1 = (limbsOf n).length by omega, List.take_of_length_le (Nat.le_refl _), limbsVal_limbsOf] at h1
    simp only [Nat.add_zero] at h1
    have h2 := limbsVal_lt (xs := (limbsOf n).take ((limbsOf n).length - 1)) (fun x hx => limbsOf_lt n x (List.mem_of_mem_take hx))
    rw [List.length_take, Nat.min_eq_left (by omega), ← h1] at h2
    have := limbsOf_len_le h2
    omega
  exact h0
theorem div_norm {y n t s : Nat} (hn : (limbsOf y).length = n) (hn1 : 1 ≤ n) (ht : t = (limbsOf y).getD (n - 1) 0) (hs : s = 32 - Lib.bitLen t) :
    s < 32 ∧ y * 2 ^ s < 4294967296 ^ n ∧ 4294967296 ^ (n - 1) * 2147483648 ≤ y * 2 ^ s := by
  have hy0 : y ≠ 0 := fun h => by subst h; rw [limbsOf_zero] at hn; simp at hn; omega
  have ht0 : 0 < t := by rw [ht, ← hn]; exact limbsOf_last hy0
  have htW : t < 4294967296 := by
    rw [ht]
    have hl : n - 1 < (limbsOf y).length := by omega
    simp only [List.getD, List.getElem?_eq_getElem hl, Option.getD_some]
    exact limbsOf_lt y _ (List.getElem_mem hl)
  obtain ⟨a, b, c⟩ := lead_shift ht0 htW hs
  have h1 := take_succ_getD (limbsOf y) (n - 1)
  rw [show n - 1 + 1 = n by omega, List.take_of_length_le (by omega), limbsVal_limbsOf, ← ht] at h1
  have h2 := limbsVal_lt (xs := (limbsOf y).take (n - 1)) (fun x hx => limbsOf_lt y x (List.mem_of_mem_take hx))
  rw [List.length_take, Nat.min_eq_left (by omega)] at h2
  have hP : 4294967296 ^ n = 4294967296 ^ (n - 1) * 4294967296 := by rw [← Nat.pow_succ]; congr 1; omega
  rw [hP]
  clear hP
  generalize 4294967296 ^ (n - 1) = P at *
  generalize limbsVal ((limbsOf y).take (n - 1)) = lo at *
  have hp := Nat.pow_pos (n := s) (show 0 < 2 by decide)
  generalize 2 ^ s = q at *
  refine ⟨a, ?_, ?_⟩
  · have e1 : y < P * (t + 1) := by rw [Nat.mul_add]; omega
    calc y * q < P * (t + 1) * q := Nat.mul_lt_mul_of_pos_right e1 hp
      _ = P * ((t + 1) * q) := Nat.mul_assoc _ _ _
      _ ≤ P * 4294967296 := Nat.mul_le_mul_left _ c
  calc P * 2147483648 ≤ P * (t * q) := Nat.mul_le_mul_left _ b
    _ = P * t * q := (Nat.mul_assoc _ _ _).symm
    _ ≤ y * q := Nat.mul_le_mul_right _ (by omega)
theorem div_top {n D : Nat} (hn1 : 1 ≤ n) (h : 4294967296 ^ (n - 1) * 2147483648 ≤ D) {ds : List Nat} (hd : ds.length = n) (hlt : ∀ x ∈ ds, x < 4294967296) (hv : limbsVal ds = D) : 2147483648 ≤ ds.getD (n - 1) 0 := by
  have h1 := take_succ_getD ds (n - 1)
  rw [show n - 1 + 1 = n by omega, List.take_of_length_le (by omega), hv] at h1
  have h2 := limbsVal_lt (xs := ds.take (n - 1)) (fun x hx => hlt x (List.mem_of_mem_take hx))
  rw [List.length_take, Nat.min_eq_left (by omega)] at h2
  generalize 4294967296 ^ (n - 1) = P at *
  generalize ds.getD (n - 1) 0 = t at *
  generalize limbsVal (ds.take (n - 1)) = lo at *
  rcases Nat.lt_or_ge t 2147483648 with h3 | h3
  · exfalso
    have := Nat.mul_le_mul_left P (show t + 1 ≤ 2147483648 from h3)
    rw [Nat.mul_add] at this
    omega
  exact h3
theorem div_start {X x m n s D : Nat} {ou : List Nat} (hx : x < 4294967296 ^ m) (hX : X = x * 2 ^ s) (hs : s < 32) (hn1 : 1 ≤ n) (hnm : n ≤ m) (hD : 4294967296 ^ (n - 1) * 2147483648 ≤ D) (hl : ou.length = m + 1) (hlt : ∀ x ∈ ou, x < 4294967296) (hv : limbsVal ou = X) :
    limbsVal (ou.drop (m - n + 1)) < D := by
  have h1 := limbsVal_split ou (m - n + 1) (by omega)
  have hp := pow2_lt hs
  have e : 4294967296 ^ m = 4294967296 ^ (m - n + 1) * 4294967296 ^ (n - 1) := by rw [← Nat.pow_add]; congr 1; omega
  have hP := ww_pos (m - n + 1)
  rw [e] at hx
  rw [hv, hX] at h1
  clear e
  generalize 4294967296 ^ (m - n + 1) = P at *
  generalize 4294967296 ^ (n - 1) = R at *
  generalize limbsVal (ou.drop (m - n + 1)) = d at *
  have h2 : x * 2 ^ s < P * R * 2 ^ s := Nat.mul_lt_mul_of_pos_right hx (Nat.pow_pos (by decide))
  have h3 : P * R * 2 ^ s ≤ P * R * 2147483648 := Nat.mul_le_mul_left _ hp
  have h4 : P * d < P * (R * 2147483648) := by rw [← Nat.mul_assoc]; omega
  exact Nat.lt_of_lt_of_le (Nat.lt_of_mul_lt_mul_left h4) hD
theorem drop_zero {o : List Nat} {n : Nat} (hn : n ≤ o.length) (h : limbsVal o < 4294967296 ^ n) : limbsVal (o.drop n) = 0 ∧ limbsVal (o.take n) = limbsVal o := by
  have h1 := limbsVal_split o n hn
  rcases Nat.eq_zero_or_pos (limbsVal (o.drop n)) with h0 | h0
  · rw [h0, Nat.mul_zero] at h1
    exact ⟨h0, by omega⟩
  have := Nat.mul_le_mul_left (4294967296 ^ n) h0
  rw [Nat.mul_one] at this
  omega
theorem div_window {ou : List Nat} {n D N k : Nat} (hl : ou.length = N) (hk : k + 1 + n ≤ N) (hlt : ∀ x ∈ ou, x < 4294967296) (hD : D < 4294967296 ^ n) (hi : limbsVal (ou.drop (k + 1)) < D) :
    limbsVal ((ou.drop k).take (n + 1)) = limbsVal (ou.drop k) ∧ limbsVal (ou.drop (k + n + 1)) = 0 ∧ limbsVal (ou.drop k) < 4294967296 * D := by
  have e1 : (ou.drop (k + 1)).drop n = ou.drop (k + n + 1) := by rw [List.drop_drop]; congr 1; omega
  have h1 := drop_zero (o := ou.drop (k + 1)) (n := n) (by simp; omega) (by omega)
  rw [e1] at h1
  have e2 : (ou.drop k).drop (n + 1) = ou.drop (k + n + 1) := by rw [List.drop_drop]; rfl
  have h2 := limbsVal_split (ou.drop k) (n + 1) (by simp; omega)
  rw [e2, h1.1, Nat.mul_zero] at h2
  refine ⟨by omega, h1.1, ?_⟩
  have hk' : k < ou.length := by omega
  have h3 : ou.drop k = ou[k] :: ou.drop (k + 1) := List.drop_eq_getElem_cons hk'
  have h4 := hlt _ (List.getElem_mem hk')
  rw [h3]
  show ou[k] + 4294967296 * limbsVal (ou.drop (k + 1)) < _
  generalize limbsVal (ou.drop (k + 1)) = d at *
  omega
theorem drop_eq_of {o o' : List Nat} {k : Nat} (hl : o.length = o'.length) (h : ∀ j, k ≤ j → o'.getD j 0 = o.getD j 0) : o'.drop k = o.drop k := by
  apply List.ext_getElem?
  intro i
  simp only [List.getElem?_drop]
  have := h (k + i) (by omega)
  simp only [List.getD] at this
  rcases Nat.lt_or_ge (k + i) o.length with h1 | h1
  · rw [List.getElem?_eq_getElem h1, List.getElem?_eq_getElem (by omega : k + i < o'.length)] at this ⊢
    simpa using this
  rw [List.getElem?_eq_none h1, List.getElem?_eq_none (by omega : o'.length ≤ k + i)]
theorem take_eq_of {o o' : List Nat} {k : Nat} (hl : o.length = o'.length) (h : ∀ j, j < k → o'.getD j 0 = o.getD j 0) : o'.take k = o.take k := by
  apply List.ext_getElem?
  intro i
  simp only [List.getElem?_take]
  split
  · rename_i hi
    have := h i hi
    simp only [List.getD] at this
    rcases Nat.lt_or_ge i o.length with h1 | h1
    · rw [List.getElem?_eq_getElem h1, List.getElem?_eq_getElem (by omega : i < o'.length)] at this ⊢
      simpa using this
    rw [List.getElem?_eq_none h1, List.getElem?_eq_none (by omega : o'.length ≤ i)]
  rfl
theorem div_round {X D N Nq n k : Nat} {ou ou' oq : List Nat} (hl : ou.length = N) (hl' : ou'.length = N) (hq : oq.length = Nq) (hkq : k < Nq) (hk : k + 1 + n ≤ N) (hlt : ∀ x ∈ ou, x < 4294967296) (hD : D < 4294967296 ^ n) (hD0 : 0 < D)
    (hi : limbsVal (ou.drop (k + 1)) < D) (hX : X = limbsVal (oq.drop (k + 1)) * 4294967296 ^ (k + 1) * D + limbsVal ou) (hout : ∀ j, j < k ∨ k + n < j → ou'.getD j 0 = ou.getD j 0) (hw : limbsVal ((ou'.drop k).take (n + 1)) = limbsVal ((ou.drop k).take (n + 1)) % D) :
    limbsVal (ou'.drop k) < D ∧ X = limbsVal ((oq.set k (limbsVal ((ou.drop k).take (n + 1)) / D)).drop k) * 4294967296 ^ k * D + limbsVal ou' := by
  obtain ⟨w1, w2, w3⟩ := div_window hl hk hlt hD hi
  rw [w1] at hw ⊢
  have e1 : ou'.drop (k + n + 1) = ou.drop (k + n + 1) := drop_eq_of (by omega) fun j hj => hout j (.inr (by omega))
  have e2 : ou'.take k = ou.take k := take_eq_of (by omega) fun j hj => hout j (.inl hj)
  have e3 : (ou'.drop k).drop (n + 1) = ou'.drop (k + n + 1) := by rw [List.drop_drop]; rfl
  have h2 := limbsVal_split (ou'.drop k) (n + 1) (by simp; omega)
  rw [e3, e1, w2, Nat.mul_zero, hw] at h2
  have hd' : limbsVal (ou'.drop k) = limbsVal (ou.drop k) % D := by omega
  have h3 := limbsVal_split ou k (by omega)
  have h4 := limbsVal_split ou' k (by omega)
  rw [e2, hd'] at h4
  have h5 : ((oq.set k (limbsVal (ou.drop k) / D)).drop k) = (limbsVal (ou.drop k) / D) :: oq.drop (k + 1) := by
    rw [List.drop_eq_getElem_cons (by simp; omega)]
    congr 1
    · simp
    rw [List.drop_set_of_lt (by omega)]
  rw [h5]
  have hmod := Nat.mod_lt (limbsVal (ou.drop k)) hD0
  have hdm := Nat.div_add_mod (limbsVal (ou.drop k)) D
  refine ⟨by omega, ?_⟩
  show X = (limbsVal (ou.drop k) / D + 4294967296 * limbsVal (oq.drop (k + 1))) * _ * D + _
  rw [hX, h3, h4, Nat.pow_succ]
  generalize limbsVal (ou.drop k) / D = q at *
  generalize limbsVal (ou.drop k) % D = r at *
  rw [← hdm]
  generalize limbsVal (ou.take k) = lo
  generalize limbsVal (oq.drop (k + 1)) = Q
  generalize 4294967296 ^ k = P
  generalize 4294967296 = W
  simp only [Nat.add_mul, Nat.mul_add]
  simp only [Nat.mul_comm, Nat.mul_left_comm]
  omega
theorem div_end {x y s Q R : Nat} (hy : 0 < y) (h : x * 2 ^ s = Q * 4294967296 ^ 0 * (y * 2 ^ s) + R) (hR : R < y * 2 ^ s) : Q = x / y ∧ R / 2 ^ s = x % y := by
  have hp := Nat.pow_pos (n := s) (show 0 < 2 by decide)
  rw [Nat.pow_zero, Nat.mul_one] at h
  have h1 : x * 2 ^ s / (y * 2 ^ s) = x / y := Nat.mul_div_mul_right _ _ hp
  have h2 : x * 2 ^ s % (y * 2 ^ s) = x % y * 2 ^ s := Nat.mul_mod_mul_right _ _ _
  have h3 : x * 2 ^ s / (y * 2 ^ s) = Q := by
    apply Nat.div_eq_of_lt_le
    · omega
    rw [Nat.add_mul]; omega
  have h4 : x * 2 ^ s % (y * 2 ^ s) = R := by
    have := Nat.div_add_mod (x * 2 ^ s) (y * 2 ^ s)
    rw [h3, Nat.mul_comm (y * 2 ^ s) Q] at this
    omega
  refine ⟨by omega, ?_⟩
  rw [← h4, h2]
  exact Nat.mul_div_cancel _ hp
theorem OwnL.sliceS {w : World} {g n : Nat} {o : List Nat} (h : OwnL w g n o) (hn : n ≤ 9223372036854775807) {S : Nat → Prop} (hS : S g) : rSlice 1 rU32 w S [.slice (some ⟨g, 0, none⟩) n n] o := by
  obtain ⟨h1, h2, f, h3, h4⟩ := h
  refine ⟨some ⟨g, 0, none⟩, n, by rw [h1], by omega, by unfold maxLen; omega, by simp, .inr ⟨g, 0, rfl, hS, fun j hj => ⟨[f j], rfl, ?_, ?_⟩⟩⟩
  · intro c hc
    obtain rfl : c = 0 := by simp at hc; omega
    simpa using h3.cell (by omega)
  refine ⟨?_, h2 _ (List.getElem_mem hj)⟩
  rw [h4 j]
  simp [List.getD, hj]
theorem OwnL.take {w : World} {g n k : Nat} {o : List Nat} (h : OwnL w g n o) (hk : k ≤ n) (hn : n ≤ 9223372036854775807) {S : Nat → Prop} (hS : S g) : rSlice 1 rU32 w S [.slice (some ⟨g, 0, none⟩) k n] (o.take k) := by
  obtain ⟨h1, h2, f, h3, h4⟩ := h
  have hl : (o.take k).length = k := by simp; omega
  refine ⟨some ⟨g, 0, none⟩, n, by rw [hl], by omega, by unfold maxLen; omega, by simp, .inr ⟨g, 0, rfl, hS, fun j hj => ⟨[f j], rfl, ?_, ?_⟩⟩⟩
  · intro c hc
    obtain rfl : c = 0 := by simp at hc; omega
    simpa using h3.cell (by omega)
  rw [List.getElem_take]
  refine ⟨?_, h2 _ (List.getElem_mem (by omega))⟩
  rw [h4 j]
  simp [List.getD, show j < o.length by omega]
theorem OwnL.grown {w w' : World} {g gu n : Nat} {o : List Nat} (h : OwnL w g n o) (hg : w.grownBy w' (some gu)) (hne : g ≠ gu) : OwnL w' g n o := by
  obtain ⟨h1, h2, f, h3, h4⟩ := h
  have hlt := h3.lt
  refine ⟨h1, h2, f, ?_, h4⟩
  unfold Own at *
  rw [hg.block g hlt (fun e => hne (Option.some.inj e))]; exact h3
theorem OwnL.other {w : World} {g g' n : Nat} {o : List Nat} (h : OwnL w g n o) (hne : g' ≠ g) (p : Nat) (v : Value) : OwnL (w.setCell ⟨g', p, none⟩ v) g n o := ⟨h.1, h.2.1, _, h.2.2.choose_spec.1.other hne p v, h.2.2.choose_spec.2⟩
theorem OwnL.alloc {w : World} {g n : Nat} {o : List Nat} (h : OwnL w g n o) (b : Obj) : OwnL (w.alloc b) g n o := ⟨h.1, h.2.1, _, h.2.2.choose_spec.1.alloc b, h.2.2.choose_spec.2⟩
theorem grown_below {w w' : World} {B g : Nat} (h : w.grownBy w' (some g)) (hg : B ≤ g) (hB : B ≤ w.heap.size) : Below B w w' :=
  ⟨h.os, h.tape, h.output, h.size, fun b hb => h.block b (by omega) (fun e => by have := Option.some.inj e; omega)⟩
end Go.Proofs.YtokmkopihhnggaaDoor
end
section
/- natural: divide, the long division: walked. -/
namespace Go.Proofs.YtokmkopihhnggaaDoor
open Go.RowKit
set_option maxRecDepth 100000 in
set_option maxHeartbeats 2000000 in
theorem divide_long (S : Nat → Prop) (u v : Value) (x y : Nat) (w : World) (hS : ∀ b, S b → b < w.heap.size) (hl : (limbsOf x).length ≤ 999999999999) (hxy : y ≤ x) (hy2 : 2 ≤ (limbsOf y).length) (hu : rSlice 1 rU32 w S [u] (limbsOf x)) (hv : rSlice 1 rU32 w S [v] (limbsOf y)) :
    Calls Tryd.prog 41 #[u, v] w fun e w' => ∃ q r, e = .returned (.tuple #[q, r]) ∧ rSlice 1 rU32 w' (LT w'.heap.size) [q] (limbsOf (x / y)) ∧ rSlice 1 rU32 w' (LT w'.heap.size) [r] (limbsOf (x % y)) ∧ Below w.heap.size w w' := by
  have hc := compare_any S u v x y w hS hu hv
  have hcn : ¬ natCmp x y < 0 := by unfold natCmp; rw [if_neg (by omega)]; split <;> omega
  have HC := hid hc
  clear hc
  have hnm : (limbsOf y).length ≤ (limbsOf x).length := by
    apply limbsOf_len_le
    have := limbsVal_lt (limbsOf_lt x)
    rw [limbsVal_limbsOf] at this
    omega
  have hu' := hid hu
  have hv' := hid hv
  have hUU := fun (w' : World) (hb : Below w.heap.size w w') => (stays_rSlice stays_rU32) _ _ _ _ _ _ hu (fun b h => hb.block b (hS b h)) fun b h => Nat.lt_of_lt_of_le (hS b h) hb.size
  have hVV := fun (w' : World) (hb : Below w.heap.size w w') => (stays_rSlice stays_rU32) _ _ _ _ _ _ hv (fun b h => hb.block b (hS b h)) fun b h => Nat.lt_of_lt_of_le (hS b h) hb.size
  have HU := hid hUU
  have HV := hid hVV
  clear hUU hVV
  have hxW : x < 4294967296 ^ (limbsOf x).length := by
    have := limbsVal_lt (limbsOf_lt x)
    rwa [limbsVal_limbsOf] at this
  obtain ⟨xa, xc, rfl, x1, x2, x3, x4⟩ := u32s_open hu
  obtain ⟨ya, yc, rfl, y1, y2, y3, y4⟩ := u32s_open hv
  obtain ⟨n, hn⟩ : ∃ n, n = (limbsOf y).length := ⟨_, rfl⟩
  obtain ⟨m, hm⟩ : ∃ m, m = (limbsOf x).length := ⟨_, rfl⟩
  rw [← hm] at hxW hl hnm
  rw [← hn] at hnm hy2
  rcases y4 with y4 | ⟨vb, voff, rfl, y4⟩
  · rw [y4] at hn; simp at hn; omega
  have hn1 : n - 1 < (limbsOf y).length := by omega
  have g0 := (y4.u32 hn1).1
  have hvS := hS vb y4.1
  have htW : (limbsOf y)[n - 1] < 4294967296 := limbsOf_lt y _ (List.getElem_mem hn1)
  obtain ⟨t, ht⟩ : ∃ t, t = (limbsOf y)[n - 1] := ⟨_, rfl⟩
  rw [← ht] at g0 htW
  have htD : t = (limbsOf y).getD (n - 1) 0 := by rw [ht]; simp [List.getD, hn1]
  obtain ⟨s, hs⟩ : ∃ s, s = 32 - Lib.bitLen t := ⟨_, rfl⟩
  obtain ⟨hs32, hD1, hD2⟩ := div_norm hn.symm (by omega) htD hs
  have hy0 : 0 < y := by
    rcases Nat.eq_zero_or_pos y with h | h
    · rw [h, limbsOf_zero] at hn; simp at hn; omega
    exact h
  have hbl : Lib.bitLen t ≤ 32 := Lib.bitLen_le t 32 (by decide) htW
  have HLZ : Hid (∀ w : World, Calls Tryd.prog 57 #[.int .u32 t] w fun e w' => e = .returned (.int .i64 (s : Int)) ∧ w' = w) := fun w => by
    have := Tryd.bits_LeadingZeros32 t w (by omega) (by omega)
    rw [show ((t : Nat) : Int).toNat = t by omega] at this
    rwa [show (32 - (Lib.bitLen t : Int)) = (s : Int) by omega] at this
  have hmk := fun (w : World) => make_one (P := Tryd.prog) Tryd.underlying82 Tryd.infoU32 rfl w (m - n + 1) (by omega) (by omega)
  have hX1 : x * 2 ^ s < 4294967296 ^ (m + 1) := by
    have := pow2_lt hs32
    rw [Nat.pow_succ]
    calc x * 2 ^ s < 4294967296 ^ m * 2 ^ s := Nat.mul_lt_mul_of_pos_right hxW (Nat.pow_pos (by decide))
      _ ≤ _ := Nat.mul_le_mul_left _ (by omega)
  have HN := hid (show _ ∧ _ ∧ _ ∧ _ from ⟨hD1, hD2, hX1, hxW⟩)
  clear hD1 hD2 hX1 hxW htD hs hbl hu hv
  rw [← hn] at y1
  rw [← hm] at x1
  have HMN := hid (show _ ∧ _ from ⟨hm, hn⟩)
  obtain ⟨rr, hrr⟩ : ∃ r, r = m - n := ⟨_, rfl⟩
  obtain ⟨Q, hQ⟩ : ∃ r, r = m - n + 1 := ⟨_, rfl⟩
  obtain ⟨m1, hm1⟩ : ∃ r, r = m + 1 := ⟨_, rfl⟩
  simp only [← hQ] at hmk
  have hmn1 : ((m : Int) - (n : Int)) = (rr : Int) := by omega
  have hmn2 : ((rr : Int) + 1) = (Q : Int) := by omega
  have hmn3 : ((Q : Int) - 1) = (rr : Int) := by omega
  have hm1' : ((m : Int) + 1) = (m1 : Int) := by omega
  have hnn1 : ((n : Int) - 1) = ((n - 1 : Nat) : Int) := by omega
  rw [← hn] at HC hv' HV ⊢
  rw [← hm] at HC hu' HU ⊢
  have hm1b : m1 ≤ 1000000000000 := by omega
  have hQb : Q ≤ 1000000000000 := by omega
  have HM1 := hid hm1
  have HQ := hid hQ
  clear hm1 hQ hrr
  have hne1 : ¬ ((n : Int) = 1) := by omega
  clear ht hm hn y4 x4 hv' hu'
  go_enter Tryd.func41, Tryd.ntmps41
  go_wp2_with fail
  refine Calls.mono HC.out ?_
  rintro e w1 ⟨rfl, hb1⟩
  rw [← hb1.cell (p := ⟨vb, voff + (n - 1), none⟩) hvS] at g0
  go_wp2_with fail
  refine Calls.mono (HLZ.out _) ?_
  rintro e w2 ⟨rfl, rfl⟩
  go_wp2_with fail
  have hS1 := shift_any _ _ _ s n w2 (fun _ h => h) (by omega) hs32 (by rw [← HMN.out.2]; exact Nat.le_refl _) (by rw [limbsVal_limbsOf]; exact HN.out.1) (HV.out w2 hb1)
  rw [limbsVal_limbsOf] at hS1
  have HS1 := hid hS1
  clear hS1
  refine Calls.mono HS1.out ?_
  rintro e w3 ⟨gd, ds, rfl, hgd, hod, hdv, hb3⟩
  have HDV := hid hdv
  clear hdv
  have hb13 := hb1.step hb3
  go_wp2_with fail
  have hS2 := shift_any _ _ _ s m1 w3 (fun _ h => h) (by omega) hs32 (by rw [← HMN.out.1]; have := HM1.out; omega) (by rw [limbsVal_limbsOf, HM1.out]; exact HN.out.2.2.1) (HU.out w3 hb13)
  rw [limbsVal_limbsOf] at hS2
  have HS2 := hid hS2
  clear hS2
  refine Calls.mono HS2.out ?_
  rintro e w4 ⟨gu, ou, rfl, hgu, hou, huv, hb4⟩
  have HUV := hid huv
  clear huv
  have hgd3 := hod.lt
  have hod4 := hod.below hb4 hgd3
  have hgdu : gd ≠ gu := by omega
  have hgu4 := hou.lt
  have hb14 := hb13.step hb4
  clear HS1 HS2 HC
  go_wp2
  clear hmk
  have HQ' := hid (show Q + n = m1 by have := HQ.out; have := HM1.out; omega)
  have hrq : rr + 1 = Q := by omega
  have hD0 : 0 < y * 2 ^ s := Nat.mul_pos hy0 (Nat.pow_pos (by decide))
  have HD0 := hid hD0
  have hqu : w4.heap.size ≠ gu := by omega
  have hqd : w4.heap.size ≠ gd := by omega
  have hwq : w.heap.size ≤ w4.heap.size := hb14.size
  have hwu : w.heap.size ≤ gu := by have := hb13.size; omega
  clear hD0
  go_loopw [13] (fun i wr => ∃ (k : Nat) (ou oq : List Nat), k ≤ Q ∧ i = .int .i64 ((k : Int) - 1) ∧ Below w.heap.size w wr ∧ OwnL wr gd n ds ∧ OwnL wr gu m1 ou ∧ OwnL wr w4.heap.size Q oq ∧
      Hid (limbsVal (ou.drop k) < y * 2 ^ s) ∧ Hid (x * 2 ^ s = limbsVal (oq.drop k) * 4294967296 ^ k * (y * 2 ^ s) + limbsVal ou)) (fun i _ => (intOf i + 1).toNat)
  case atStart =>
    refine ⟨Q, ou, _, Nat.le_refl _, by rw [hmn3], hb14.alloc hwq _, hod4.alloc _, hou.alloc _, OwnL.new _ _, ?_, ?_⟩
    · show limbsVal (ou.drop Q) < _
      rw [HQ.out]
      exact div_start HN.out.2.2.2 rfl hs32 (by omega) hnm HN.out.2.1 (by rw [hou.1]; exact HM1.out) hou.2.1 HUV.out
    show x * 2 ^ s = _
    rw [HUV.out, List.drop_of_length_le (by simp)]
    simp [limbsVal]
  case round =>
    obtain ⟨k, o, oq, hk, rfl, hbw, hod', hou', hoq', HI, HX⟩ := hrel
    cases k with
    | zero =>
      have hx1 := HX.out
      have hx2 := HI.out
      rw [List.drop_zero] at hx1 hx2
      obtain ⟨hq1, hr1⟩ := div_end hy0 hx1 hx2
      have htk := drop_zero (o := o) (n := n) (by rw [hou'.1]; omega) (Nat.lt_trans hx2 HN.out.1)
      have hT : Hid (∀ wr' : World, OwnL wr' w4.heap.size Q oq → Calls Tryd.prog 55 #[.slice (some ⟨w4.heap.size, 0, none⟩) Q Q] wr' fun e w' => ∃ r, e = .returned r ∧ wr' = w' ∧ rSlice 1 rU32 wr' (LT wr'.heap.size) [r] (limbsOf (x / y))) := fun wr' h => by
        have := trim_any _ _ _ _ (h.slice (by omega))
        rw [hq1] at this
        exact this
      have hU : Hid (∀ wr' : World, OwnL wr' gu m1 o → Calls Tryd.prog 60 #[.slice (some ⟨gu, 0, none⟩) n m1, .int .u64 s] wr' fun e w' => ∃ r, e = .returned r ∧ rSlice 1 rU32 w' (LT w'.heap.size) [r] (limbsOf (x % y)) ∧ Below wr'.heap.size wr' w') := fun wr' h => by
        have := unshift_any (LT wr'.heap.size) _ (o.take n) s wr' (fun _ h => h) (by simp; omega) hs32 (h.take (by omega) (by omega) h.lt)
        rw [htk.2, hr1] at this
        exact this
      have hnm1 : n ≤ m1 := by omega
      clear hx1 hx2 hq1 hr1 htk
      go_wp2_with fail
      go_region_with (first
        | (go_at_call 55; refine Calls.mono (hT.out _ ?h1) ?_; exact hoq'; rintro e w5 ⟨q, rfl, rfl, hq⟩)
        | (go_at_call 60; refine Calls.mono (hU.out _ ?h2) ?_; exact hou'; rintro e w6 ⟨r, rfl, hr, hb6⟩))
      all_goals (try go_wp2)
      go_ret2
      exact ⟨_, _, rfl, (stays_rSlice stays_rU32).below hq hb6 hb6.size, hr, Below.step (a := wr.drew) (Below.drew hbw) hb6⟩
    | succ k =>
      rw [show (((k + 1 : Nat) : Int) - 1) = (k : Int) by omega]
      have HST := hid (fun cap (hc : n + 1 ≤ cap) => step_any (· = gd) _ ds o gu k m1 cap n wr (fun b hb => by subst hb; exact ⟨hod'.lt, hgdu⟩) (by omega) hy2 hod'.1 (by have := HQ'.out; omega) hc (hod'.sliceS (by omega) rfl) hou' (div_top (by omega) HN.out.2.1 hod'.1 hod'.2.1 HDV.out) (by
        rw [HDV.out]
        have := div_window (k := k) hou'.1 (by have := HQ'.out; omega) hou'.2.1 HN.out.1 HI.out
        rw [this.1]; exact this.2.2))
      have hkQ : k < Q := by omega
      have hkm : k + n < m1 := by have := HQ'.out; omega
      go_wp2_with fail
      rw [show k + n + 1 - k = n + 1 by omega]
      refine Calls.mono (HST.out _ ?hcap) ?_
      case hcap => omega
      rintro e wn ⟨o', rfl, hon, hout, hwin, hgr⟩
      obtain ⟨hr1, hr2⟩ := div_round hou'.1 hon.1 hoq'.1 hkQ (by have := HQ'.out; omega) hou'.2.1 HN.out.1 HD0.out HI.out HX.out hout (by rw [← HDV.out]; exact hwin)
      have hdn := hod'.grown hgr hgdu
      have hqn := hoq'.grown hgr hqu
      have hbn : Below w.heap.size wr wn := grown_below hgr hwu hbw.size
      have hko : k < oq.length := by rw [hoq'.1]; exact hkQ
      have c1 := hqn.cell hko
      have c2 := hqn.frozen k
      obtain ⟨d, hd⟩ : ∃ d, d = limbsVal ((o.drop k).take (n + 1)) / limbsVal ds := ⟨_, rfl⟩
      have hdW : d < 4294967296 := by
        rw [hd, HDV.out]
        have := div_window (k := k) hou'.1 (by have := HQ'.out; omega) hou'.2.1 HN.out.1 HI.out
        rw [this.1]
        exact Nat.div_lt_of_lt_mul (by rw [Nat.mul_comm]; exact this.2.2)
      rw [← HDV.out, ← hd] at hr2
      rw [← hd]
      have HR1 := hid hr1
      have HR2 := hid hr2
      clear hr1 hr2 hout hwin hd HST
      go_wp2
      go_roundw
      case rel =>
        refine ⟨k, o', oq.set k d, by omega, rfl, (hbw.trans hbn).setCell hwq _, hdn.other hqd _ _, hon.other hqu _ _, hqn.set hko hdW, HR1.out, ?_⟩
        rw [HDV.out] at HR2
        exact HR2.out
      case measure => simp [intOf]
end Go.Proofs.YtokmkopihhnggaaDoor
end
section
/- insolvencyref1: long: plain facts. -/
namespace Go.Proofs.YtokmkopihhnggaaDoor
open Go.RowKit
end Go.Proofs.YtokmkopihhnggaaDoor
end
section
/- Knuth's step, its plain facts at a window of a row. -/
namespace Go.Proofs.YtokmkopihhnggaaDoor
open Go.RowKit
end Go.Proofs.YtokmkopihhnggaaDoor
end
section
/- insolvencyref1: long: walked. -/
namespace Go.Proofs.YtokmkopihhnggaaDoor
open Go.RowKit
def LW (w wr : World) (gd nn : Nat) (od : List Nat) (gq Q : Nat) (oq : List Nat) : Prop := OwnL wr gd nn od ∧ OwnL wr gq Q oq ∧ Below w.heap.size w wr
theorem LW.set {w wr : World} {gd nn : Nat} {od : List Nat} {gq Q : Nat} {oq : List Nat} (h : LW w wr gd nn od gq Q oq) {gu : Nat} (h1 : gu ≠ gd) (h2 : gu ≠ gq) (h3 : w.heap.size ≤ gu) (p : Nat) (v : Value) : LW w (wr.setCell ⟨gu, p, none⟩ v) gd nn od gq Q oq :=
  ⟨h.1.other h1 p v, h.2.1.other h2 p v, h.2.2.setCell h3 v⟩
theorem LW.drewN {w wr : World} {gd nn : Nat} {od : List Nat} {gq Q : Nat} {oq : List Nat} (h : LW w wr gd nn od gq Q oq) (k : Nat) : LW w (wr.drewN k) gd nn od gq Q oq := ⟨h.1, h.2.1, h.2.2.drewN k⟩
end Go.Proofs.YtokmkopihhnggaaDoor
end
section
/- insolvencyref1: FromUint: walked. -/
namespace Go.Proofs.YtokmkopihhnggaaDoor
open Go.RowKit
end Go.Proofs.YtokmkopihhnggaaDoor
end
section
/- insolvencyref1: small functions of rationals: walked. -/
namespace Go.Proofs.YtokmkopihhnggaaDoor
open Go.RowKit
def vRat (r : GRat) : Value := .agg #[.bool r.neg, .string r.num, .string r.den]
def sgnZ (r : GRat) : Int := if r.num.size = 0 then 0 else if r.neg = true then -1 else 1
theorem num_ne {s : ByteArray} (h : ¬ s.size = 0) : s.toList.isEmpty = false := by
  rw [ByteArray.toList_eq]
  cases hl : s.data.toList with
  | nil => exact absurd (by rw [← ByteArray.size_data, ← Array.length_toList, hl]; rfl) h
  | cons => rfl
end Go.Proofs.YtokmkopihhnggaaDoor
end
section
/- insolvencyref1: size: walked. -/
namespace Go.Proofs.YtokmkopihhnggaaDoor
open Go.RowKit
end Go.Proofs.YtokmkopihhnggaaDoor
end
section
/- insolvencyref1: Opposite, Positive: walked. -/
namespace Go.Proofs.YtokmkopihhnggaaDoor
open Go.RowKit
def gOpp (r : GRat) : GRat := if r.num.size = 0 then r else ⟨!r.neg, r.num, r.den⟩
end Go.Proofs.YtokmkopihhnggaaDoor
end
section
/- insolvencyref1: Opposite: walked. -/
namespace Go.Proofs.YtokmkopihhnggaaDoor
open Go.RowKit
end Go.Proofs.YtokmkopihhnggaaDoor
end
section
/- Rational numbers as the program writes them: plain. -/
namespace Go.Proofs.YtokmkopihhnggaaDoor
def sg (b : Bool) (n : Nat) : Int := if b = true then -(n : Int) else (n : Int)
theorem sg_natAbs (b : Bool) (n : Nat) : (sg b n).natAbs = n := by unfold sg; split <;> simp
theorem sg_zero (b : Bool) : sg b 0 = 0 := by unfold sg; split <;> rfl
theorem sg_neg {b : Bool} {n : Nat} (h : n ≠ 0) : (sg b n < 0) = (b = true) := by
  unfold sg; cases b <;> simp <;> omega
theorem sg_of (z : Int) : sg (decide (z < 0)) z.natAbs = z := by unfold sg; split <;> simp_all <;> omega
def bEmpty : ByteArray := { data := #[] }
theorem natStr_e : natStr 0 = bEmpty := by unfold natStr bEmpty; rw [natBytes_zero]
theorem bEmpty_size : bEmpty.size = 0 := rfl
theorem bEmpty_of {s : ByteArray} (h : s.size = 0) : s = bEmpty := ByteArray.ext (Array.eq_empty_of_size_eq_zero h)
theorem natStr_ne {n : Nat} (h : n ≠ 0) : (natStr n).size ≠ 0 := by
  rw [natStr_size, natBytes_pos h]; simp
theorem natStr_size0 {n : Nat} : (natStr n).size = 0 ↔ n = 0 := ⟨fun h => by rcases Nat.eq_zero_or_pos n with h0 | h0; exact h0; exact absurd h (natStr_ne (by omega)), fun h => by subst h; rw [natStr_e]; rfl⟩
def enc (q : Rat) : GRat := ⟨decide (q.num < 0), natStr q.num.natAbs, if q.den = 1 then bEmpty else natStr q.den⟩
theorem enc_zero : enc 0 = ⟨false, bEmpty, bEmpty⟩ := by
  unfold enc; simp [natStr_e]
theorem enc_inj {p q : Rat} (h : enc p = enc q) : p = q := by
  unfold enc at h
  injection h with h1 h2 h3
  have e2 := natStr_inj h2
  have e1 : p.num = q.num := by
    have := decide_eq_decide.1 h1
    omega
  have e3 : p.den = q.den := by
    split at h3 <;> split at h3
    · omega
    · have h4 := congrArg ByteArray.size h3
      exact absurd h4.symm (natStr_ne q.den_nz)
    · have h4 := congrArg ByteArray.size h3
      exact absurd h4 (natStr_ne p.den_nz)
    exact natStr_inj h3
  exact Rat.ext e1 e3
open Classical in
noncomputable def qOf (r : GRat) : Rat := if h : ∃ q, enc q = r then h.choose else 0
theorem qOf_enc (q : Rat) : qOf (enc q) = q := by
  unfold qOf
  have h : ∃ p, enc p = enc q := ⟨q, rfl⟩
  rw [dif_pos h]
  exact enc_inj h.choose_spec
def gDen (r : GRat) : Nat := if r.den.size = 0 then 1 else strVal r.den
theorem enc_den (q : Rat) : gDen (enc q) = q.den := by
  unfold gDen enc
  by_cases h : q.den = 1
  · simp [h, bEmpty_size]
  simp only [h, if_false]
  rw [if_neg (natStr_ne q.den_nz), strVal_natStr]
theorem enc_num (q : Rat) : strVal (enc q).num = q.num.natAbs := by unfold enc; exact strVal_natStr _
theorem enc_num0 (q : Rat) : (enc q).num.size = 0 ↔ q = 0 := by
  unfold enc
  show (natStr _).size = 0 ↔ _
  rw [natStr_size0]
  constructor
  · intro h; exact Rat.num_eq_zero.1 (by omega)
  intro h; rw [h]; rfl
def gValid (r : GRat) : Bool :=
  decide (natStr (strVal r.num) = r.num) && decide (natStr (strVal r.den) = r.den) &&
    (if r.num.size = 0 then !r.neg && decide (r.den.size = 0) else decide (r.den.size = 0) || (decide (strVal r.den ≠ 1) && decide (Nat.gcd (strVal r.num) (strVal r.den) = 1)))
theorem gValid_enc (q : Rat) : gValid (enc q) = true := by
  have h1 : natStr (strVal (enc q).num) = (enc q).num := by rw [enc_num]; rfl
  have h2 : natStr (strVal (enc q).den) = (enc q).den := by
    unfold enc
    by_cases h : q.den = 1
    · simp only [h, if_true]; rw [← natStr_e, strVal_natStr]
    simp only [h, if_false]; rw [strVal_natStr]
  unfold gValid
  simp only [h1, h2, decide_true, Bool.true_and]
  by_cases h0 : q = 0
  · subst h0; rw [enc_zero]; simp [bEmpty_size]
  rw [if_neg (fun h => h0 ((enc_num0 q).1 h))]
  by_cases hd : q.den = 1
  · simp [enc, hd, bEmpty_size]
  have e : (enc q).den = natStr q.den := by simp [enc, hd]
  rw [e, strVal_natStr, enc_num]
  simp [hd]
  right
  exact q.reduced
theorem gValid_of {r : GRat} (h : gValid r = true) : ∃ q, enc q = r := by
  unfold gValid at h
  simp only [Bool.and_eq_true, decide_eq_true_eq] at h
  obtain ⟨⟨h1, h2⟩, h3⟩ := h
  by_cases h0 : r.num.size = 0
  · rw [if_pos h0] at h3
    simp only [Bool.and_eq_true, Bool.not_eq_true', decide_eq_true_eq] at h3
    refine ⟨0, ?_⟩
    rw [enc_zero]
    obtain ⟨n, a, b⟩ := r
    simp only at h0 h3 ⊢
    rw [h3.1, bEmpty_of h0, bEmpty_of h3.2]
  rw [if_neg h0] at h3
  have hn : strVal r.num ≠ 0 := by
    intro h; rw [h, natStr_e] at h1; rw [← h1] at h0; exact h0 rfl
  simp only [Bool.or_eq_true, Bool.and_eq_true, decide_eq_true_eq] at h3
  by_cases hd : r.den.size = 0
  · refine ⟨⟨sg r.neg (strVal r.num), 1, by decide, by simp [Nat.Coprime]⟩, ?_⟩
    unfold enc
    simp only [sg_natAbs, sg_neg hn, if_true, h1]
    obtain ⟨n, a, b⟩ := r
    simp only at hd ⊢
    rw [bEmpty_of hd]; simp
  have h4 := h3.resolve_left hd
  have hd0 : strVal r.den ≠ 0 := by
    intro h; rw [h, natStr_e] at h2; rw [← h2] at hd; exact hd rfl
  refine ⟨⟨sg r.neg (strVal r.num), strVal r.den, hd0, by rw [sg_natAbs]; exact h4.2⟩, ?_⟩
  unfold enc
  simp only [sg_natAbs, sg_neg hn, if_neg h4.1, h1, h2]
  obtain ⟨n, a, b⟩ := r
  simp
theorem qOf_bad {r : GRat} (h : gValid r = false) : qOf r = 0 := by
  unfold qOf
  rw [dif_neg]
  rintro ⟨q, rfl⟩
  rw [gValid_enc] at h
  cases h
theorem qOf_ok {r : GRat} (h : gValid r = true) : enc (qOf r) = r := by
  obtain ⟨q, rfl⟩ := gValid_of h
  rw [qOf_enc]
theorem enc_mkRat {neg : Bool} {n d : Nat} (hn : n ≠ 0) (hd : d ≠ 0) : enc (mkRat (sg neg n) d) = ⟨neg, natStr (n / Nat.gcd n d), if d / Nat.gcd n d = 1 then bEmpty else natStr (d / Nat.gcd n d)⟩ := by
  have hg : 0 < Nat.gcd n d := Nat.gcd_pos_of_pos_left _ (by omega)
  have hq : n / Nat.gcd n d ≠ 0 := by
    have := Nat.div_pos (Nat.gcd_le_left d (by omega : 0 < n)) hg
    omega
  have e1 : (mkRat (sg neg n) d).num = sg neg (n / Nat.gcd n d) := by
    rw [Rat.num_mkRat, if_neg hd, sg_natAbs, Nat.gcd_comm]
    unfold sg
    split
    · rw [Int.neg_ediv_of_dvd (Int.natCast_dvd_natCast.2 (Nat.gcd_dvd_left n d))]; rfl
    rfl
  have e2 : (mkRat (sg neg n) d).den = d / Nat.gcd n d := by
    rw [Rat.den_mkRat, if_neg hd, sg_natAbs, Nat.gcd_comm]
  unfold enc
  rw [e1, e2, sg_natAbs]
  simp only [sg_neg hq]
  simp
def qB (n : Nat) (q : Rat) : Prop := q.num.natAbs < 256 ^ n ∧ q.den < 256 ^ n
theorem qB.mono {m n : Nat} {q : Rat} (h : qB m q) (hm : m ≤ n) : qB n q :=
  have := Nat.pow_le_pow_right (show 0 < 256 by decide) hm
  ⟨Nat.lt_of_lt_of_le h.1 this, Nat.lt_of_lt_of_le h.2 this⟩
theorem qB_zero : qB 1 0 := by unfold qB; simp
theorem qB_mkRat {n : Nat} {z : Int} {d : Nat} (hz : z.natAbs < 256 ^ n) (hd : d < 256 ^ n) (hn : 0 < n) : qB n (mkRat z d) := by
  have h1 : 1 < 256 ^ n := Nat.one_lt_pow (by omega) (by decide)
  by_cases h : d = 0
  · subst h; rw [Rat.mkRat_zero]; exact qB_zero.mono hn
  constructor
  · rw [Rat.num_mkRat, if_neg h]
    refine Nat.lt_of_le_of_lt ?_ hz
    have hdv : ((d.gcd z.natAbs : Nat) : Int) ∣ z := Int.ofNat_dvd_left.2 (Nat.gcd_dvd_right _ _)
    rw [Int.natAbs_ediv_of_dvd hdv]
    exact Nat.div_le_self _ _
  rw [Rat.den_mkRat, if_neg h]
  exact Nat.lt_of_le_of_lt (Nat.div_le_self _ _) hd
theorem pow_mul_lt {a b m n : Nat} (ha : a < 256 ^ m) (hb : b < 256 ^ n) : a * b < 256 ^ (m + n) := by
  rw [Nat.pow_add]; exact Nat.mul_lt_mul'' ha hb
theorem qB.pos {n : Nat} {q : Rat} (h : qB n q) : 0 < n := by
  rcases Nat.eq_zero_or_pos n with h0 | h0
  · subst h0; have := h.2; have := q.den_nz; omega
  exact h0
theorem qB.add {m n : Nat} {p q : Rat} (hp : qB m p) (hq : qB n q) : qB (m + n + 1) (p + q) := by
  rw [Rat.add_def']
  have h1 := pow_mul_lt hp.1 hq.2
  have h2 := pow_mul_lt hq.1 hp.2
  have h3 := pow_mul_lt hp.2 hq.2
  have e : 256 ^ (m + n + 1) = 256 ^ (m + n) * 256 := Nat.pow_succ ..
  rw [Nat.add_comm n m] at h2
  refine qB_mkRat ?_ (by rw [e]; omega) (by omega)
  refine Nat.lt_of_le_of_lt (Int.natAbs_add_le _ _) ?_
  rw [Int.natAbs_mul, Int.natAbs_mul, Int.natAbs_natCast, Int.natAbs_natCast, e]
  omega
theorem qB.mul {m n : Nat} {p q : Rat} (hp : qB m p) (hq : qB n q) : qB (m + n) (p * q) := by
  rw [Rat.mul_def']
  have := hp.pos
  refine qB_mkRat ?_ (pow_mul_lt hp.2 hq.2) (by omega)
  rw [Int.natAbs_mul]
  exact pow_mul_lt hp.1 hq.1
theorem qB.neg {n : Nat} {q : Rat} (h : qB n q) : qB n (-q) := by
  unfold qB
  rw [Rat.neg_num, Rat.neg_den, Int.natAbs_neg]; exact h
theorem qB.sub {m n : Nat} {p q : Rat} (hp : qB m p) (hq : qB n q) : qB (m + n + 1) (p - q) := by
  rw [Rat.sub_eq_add_neg]; exact hp.add hq.neg
theorem enc_size {n : Nat} {q : Rat} (h : qB n q) : (enc q).num.size ≤ n ∧ (enc q).den.size ≤ n := by
  constructor
  · show (natStr _).size ≤ n
    rw [natStr_size]; exact natBytes_len_le h.1
  unfold enc
  simp only
  split
  · exact Nat.zero_le _
  rw [natStr_size]; exact natBytes_len_le h.2
theorem qB_qOf {n : Nat} {r : GRat} (hn : 0 < n) (h1 : r.num.size ≤ n) (h2 : r.den.size ≤ n) : qB n (qOf r) := by
  by_cases h : gValid r = true
  · have e := qOf_ok h
    have a := enc_num (qOf r)
    have b := enc_den (qOf r)
    rw [e] at a b
    have p1 := Nat.pow_le_pow_right (show 0 < 256 by decide) h1
    have p2 := Nat.pow_le_pow_right (show 0 < 256 by decide) h2
    have q1 := strVal_lt r.num
    have q2 := strVal_lt r.den
    have h1 : 1 < 256 ^ n := Nat.one_lt_pow (by omega) (by decide)
    refine ⟨by omega, ?_⟩
    rw [← b]
    unfold gDen
    split <;> omega
  rw [qOf_bad (by simpa using h)]
  exact qB_zero.mono hn
end Go.Proofs.YtokmkopihhnggaaDoor
end
