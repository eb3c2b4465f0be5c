/- Long division, one digit (Knuth's algorithm D): plain. -/
import Derived.Test.YtgmedcncbpdimaaDoorBaseM
import Derived.Shelf.Small.Bits
import Derived.Shelf.Small.Strs
import Derived.Test.YtgmedcncbpdimaaDoorProg
import Derived.Test.YtgmedcncbpdimaaDoorRef7M
set_option linter.unusedVariables false
set_option linter.unusedSimpArgs false
set_option linter.unusedSectionVars false
section
/- Long division, one digit (Knuth's algorithm D): plain. -/
namespace Go.Proofs.YtgmedcncbpdimaaDoor

section
variable {D U M D0 U0 dt d2 top u2 : Nat} (hD : D = (dt * 4294967296 + d2) * M + D0) (hU : U = (top * 4294967296 + u2) * M + U0) (hD0 : D0 < M) (hU0 : U0 < M)
include hD hU hU0
theorem knuth_dec {G R : Nat} (h : G * dt + R = top) (hg : R * 4294967296 + u2 < G * d2) : U < G * D := by
  have h1 : (top * 4294967296 + u2 + 1) * M ≤ (G * (dt * 4294967296 + d2)) * M := by
    apply Nat.mul_le_mul_right
    rw [← h, Nat.mul_add, Nat.add_mul, ← Nat.mul_assoc]
    omega
  rw [Nat.add_mul, Nat.one_mul] at h1
  have h2 : G * D = G * (dt * 4294967296 + d2) * M + G * D0 := by rw [hD, Nat.mul_add, ← Nat.mul_assoc]
  rw [hU, h2]
  omega

include hD0
theorem knuth_exit {G R : Nat} (hdt : 0 < dt) (h : G * dt + R = top) (hg : G * d2 ≤ R * 4294967296 + u2) (hG : G ≤ 4294967296) : G * D ≤ U + D := by
  have h1 : (G * (dt * 4294967296 + d2)) * M ≤ (top * 4294967296 + u2) * M := by
    apply Nat.mul_le_mul_right
    rw [← h, Nat.mul_add, Nat.add_mul, ← Nat.mul_assoc]
    omega
  have h2 : G * D = G * (dt * 4294967296 + d2) * M + G * D0 := by rw [hD, Nat.mul_add, ← Nat.mul_assoc]
  have h3 : G * D0 ≤ 4294967296 * M := Nat.mul_le_mul hG (Nat.le_of_lt hD0)
  have h4 : 4294967296 * M ≤ (dt * 4294967296 + d2) * M := Nat.mul_le_mul_right _ (by omega)
  rw [h2]
  omega
end

theorem limbsVal_split (xs : List Nat) (m : Nat) (hm : m ≤ xs.length) : limbsVal xs = limbsVal (xs.take m) + 4294967296 ^ m * limbsVal (xs.drop m) := by
  conv => lhs; rw [← List.take_append_drop m xs]
  rw [limbsVal_append, List.length_take, Nat.min_eq_left hm]

theorem split_top2 {xs : List Nat} (h : ∀ x ∈ xs, x < 4294967296) (m : Nat) (hl : xs.length = m + 2) :
    ∃ X0, X0 < 4294967296 ^ m ∧ limbsVal xs = (xs.getD (m + 1) 0 * 4294967296 + xs.getD m 0) * 4294967296 ^ m + X0 := by
  refine ⟨limbsVal (xs.take m), ?_, ?_⟩
  · have := limbsVal_lt (xs := xs.take m) (fun x hx => h x (List.mem_of_mem_take hx))
    rwa [List.length_take, Nat.min_eq_left (by omega)] at this
  · rw [limbsVal_split xs m (by omega)]
    have e : xs.drop m = [xs.getD m 0, xs.getD (m + 1) 0] := by
      rw [List.drop_eq_getElem_cons (by omega), List.drop_eq_getElem_cons (by omega), List.drop_of_length_le (by omega)]
      simp [List.getD, show m < xs.length by omega, show m + 1 < xs.length by omega]
    rw [e]
    simp only [limbsVal]
    rw [Nat.mul_comm (4294967296 ^ m), Nat.add_comm, Nat.mul_comm 4294967296, Nat.mul_zero, Nat.add_zero]
    congr 2
    omega

theorem split_top3 {xs : List Nat} (h : ∀ x ∈ xs, x < 4294967296) (m : Nat) (hl : xs.length = m + 3) :
    ∃ X0, X0 < 4294967296 ^ m ∧ limbsVal xs = ((xs.getD (m + 2) 0 * 4294967296 + xs.getD (m + 1) 0) * 4294967296 + xs.getD m 0) * 4294967296 ^ m + X0 := by
  refine ⟨limbsVal (xs.take m), ?_, ?_⟩
  · have := limbsVal_lt (xs := xs.take m) (fun x hx => h x (List.mem_of_mem_take hx))
    rwa [List.length_take, Nat.min_eq_left (by omega)] at this
  · rw [limbsVal_split xs m (by omega)]
    have e : xs.drop m = [xs.getD m 0, xs.getD (m + 1) 0, xs.getD (m + 2) 0] := by
      rw [List.drop_eq_getElem_cons (by omega), List.drop_eq_getElem_cons (by omega), List.drop_eq_getElem_cons (by omega), List.drop_of_length_le (by omega)]
      simp [List.getD, show m < xs.length by omega, show m + 1 < xs.length by omega, show m + 2 < xs.length by omega]
    rw [e]
    simp only [limbsVal]
    rw [Nat.mul_comm (4294967296 ^ m), Nat.add_comm, Nat.mul_zero, Nat.add_zero]
    congr 2
    omega

/-- The guess is the digit or one more. -/
theorem knuth_two {U D G : Nat} (hD : 0 < D) (h1 : U < (G + 1) * D) (h2 : G * D ≤ U + D) : G = U / D ∨ G = U / D + 1 := by
  have h3 : U / D ≤ G := by
    have := Nat.div_lt_of_lt_mul (show U < D * (G + 1) by rw [Nat.mul_comm]; exact h1)
    omega
  have h4 : G ≤ U / D + 1 := by
    have h5 : U < (U / D + 1) * D := by rw [Nat.mul_comm]; exact Nat.lt_mul_div_succ U hD
    rcases Nat.lt_or_ge (U / D + 1) G with h | h
    · exfalso
      have h6 : (U / D + 1 + 1) * D ≤ G * D := Nat.mul_le_mul_right _ h
      rw [Nat.add_mul, Nat.one_mul] at h6
      omega
    · exact h
  omega

theorem knuth_un {D U M D0 U0 dt d2 un u1 u2 : Nat} (hDe : D = (dt * 4294967296 + d2) * M + D0) (hUe : U = ((un * 4294967296 + u1) * 4294967296 + u2) * M + U0) (hD0 : D0 < M) (l4 : d2 < 4294967296) (hU : U < 4294967296 * D) : un ≤ dt := by
  rcases Nat.lt_or_ge dt un with h | h
  · exfalso
    have h1 : (dt * 4294967296 + d2 + 1) * M ≤ (dt + 1) * 4294967296 * M := Nat.mul_le_mul_right _ (by omega)
    have h2 : (dt + 1) * 4294967296 * 4294967296 * M ≤ ((un * 4294967296 + u1) * 4294967296 + u2) * M := Nat.mul_le_mul_right _ (by omega)
    rw [Nat.add_mul, Nat.one_mul] at h1
    have h3 : (dt + 1) * 4294967296 * 4294967296 * M = 4294967296 * ((dt + 1) * 4294967296 * M) := by rw [Nat.mul_assoc ((dt + 1) * 4294967296), Nat.mul_left_comm]
    omega
  · exact h

theorem knuth_first' {W D U M D0 U0 dt d2 t u2 G0 R0 : Nat} (hDe : D = (dt * W + d2) * M + D0) (hUe : U = (t * W + u2) * M + U0) (hU0 : U0 < M) (l2 : u2 < W)
    (hGR : G0 * dt + R0 = t) (hR0l : R0 < dt) : U < (G0 + 1) * D := by
  have h1 : t + 1 ≤ (G0 + 1) * dt := by rw [Nat.add_mul]; omega
  have h2 : (t + 1) * (W * M) ≤ (G0 + 1) * dt * (W * M) := Nat.mul_le_mul_right _ h1
  have h3 : dt * (W * M) ≤ D := by
    rw [hDe, Nat.add_mul, Nat.mul_assoc, Nat.add_assoc]
    exact Nat.le_add_right _ _
  have h3' : (G0 + 1) * (dt * (W * M)) ≤ (G0 + 1) * D := Nat.mul_le_mul_left _ h3
  rw [← Nat.mul_assoc (G0 + 1) dt] at h3'
  have h5 : t * W + u2 + 1 ≤ (t + 1) * W := by rw [Nat.add_mul]; omega
  have h6 : (t * W + u2 + 1) * M ≤ (t + 1) * W * M := Nat.mul_le_mul_right _ h5
  rw [Nat.add_mul (t * W + u2), Nat.one_mul, Nat.mul_assoc (t + 1)] at h6
  rw [hUe]
  generalize (t * W + u2) * M = a at *
  generalize (t + 1) * (W * M) = b at *
  omega
theorem knuth_first {D U M D0 U0 dt d2 un u1 u2 G0 R0 : Nat} (hDe : D = (dt * 4294967296 + d2) * M + D0) (hUe : U = ((un * 4294967296 + u1) * 4294967296 + u2) * M + U0) (hU0 : U0 < M) (l2 : u2 < 4294967296)
    (hGR : G0 * dt + R0 = un * 4294967296 + u1) (hR0l : R0 < dt) : U < (G0 + 1) * D := knuth_first' hDe hUe hU0 l2 hGR hR0l

theorem knuth_g0 {dt un u1 G0 R0 : Nat} (hdt : 2147483648 ≤ dt) (hun : un ≤ dt) (l1 : u1 < 4294967296) (hGR : G0 * dt + R0 = un * 4294967296 + u1) : G0 ≤ 4294967297 := by
  rcases Nat.lt_or_ge 4294967297 G0 with h | h
  · exfalso
    have : 4294967298 * dt ≤ G0 * dt := Nat.mul_le_mul_right _ h
    omega
  · exact h

theorem knuth_end0 {U D G U' : Nat} (hD : 0 < D) (h : G = U / D ∨ G = U / D + 1) (he : U' + G * D = U) : G = U / D ∧ U' = U % D := by
  have h1 := Nat.div_add_mod U D
  rw [Nat.mul_comm] at h1
  have h2 := Nat.mod_lt U hD
  rcases h with h | h
  · rw [h] at he; exact ⟨h, by omega⟩
  · exfalso; rw [h, Nat.add_mul] at he; omega
theorem knuth_end1 {U D G U' P : Nat} (hD : 0 < D) (h : G = U / D ∨ G = U / D + 1) (hP : U' < P) (he : U' + G * D = U + P) : G = U / D + 1 ∧ U' + D = P + U % D := by
  have h1 := Nat.div_add_mod U D
  rw [Nat.mul_comm] at h1
  rcases h with h | h
  · exfalso; rw [h] at he; omega
  · refine ⟨h, ?_⟩; rw [h, Nat.add_mul] at he; omega

theorem take_set_snoc {o : List Nat} {off k d : Nat} (hk : off + k < o.length) : ((o.set (off + k) d).drop off).take (k + 1) = (o.drop off).take k ++ [d] := by
  apply List.ext_getElem?
  intro i
  rcases Nat.lt_trichotomy i k with h | h | h
  · rw [List.getElem?_append_left (by simp; omega)]
    simp [List.getElem?_take, show i < k + 1 by omega, h, List.getElem?_set, show ¬ k = i by omega]
  · subst h
    rw [List.getElem?_append_right (by simp; omega)]
    simp [List.getElem?_take, hk, show min i (o.length - off) = i by omega]
  · rw [List.getElem?_eq_none (by simp; omega), List.getElem?_eq_none (by simp; omega)]

theorem take_len {o : List Nat} {off k : Nat} (hk : off + k ≤ o.length) : ((o.drop off).take k).length = k := by simp; omega

theorem take_succ_off {o : List Nat} {off k : Nat} (hk : off + k < o.length) : (o.drop off).take (k + 1) = (o.drop off).take k ++ [o.getD (off + k) 0] := by
  rw [List.take_succ_eq_append_getElem (by simp; omega)]
  simp [List.getD, hk]

end Go.Proofs.YtgmedcncbpdimaaDoor
end
section
/- Contracts of the kit's shelf, laid at this translation by the kit's own tool: bits.Len32, bits.LeadingZeros32, strings.Compare. -/
namespace Go.Proofs
open Go.Shelf
def Tryd.lays128_ren : Go.Shelf.Ren := ⟨fun | 128 => 118 | n => n, fun | 51 => 85 | 3 => 3 | 4 => 4 | 46 => 87 | 5 => 5 | 9 => 9 | n => n, fun | n => n⟩
theorem Tryd.lays128 : Go.Proofs.Lays.n128 Tryd.prog Tryd.lays128_ren := {
  mixed := by kernel_rfl
  f128 := Tryd.func118.trans (congrArg some (by kernel_rfl))
  t3 := Tryd.underlying3
  a3 := Tryd.isAgg3
  z3 := Tryd.sizeOf3
  v3 := Tryd.zeroValue3
  t4 := Tryd.underlying4
  a4 := Tryd.isAgg4
  z4 := Tryd.sizeOf4
  v4 := Tryd.zeroValue4
  t5 := Tryd.underlying5
  a5 := Tryd.isAgg5
  z5 := Tryd.sizeOf5
  v5 := Tryd.zeroValue5
  t9 := Tryd.underlying9
  a9 := Tryd.isAgg9
  z9 := Tryd.sizeOf9
  v9 := Tryd.zeroValue9
  t46 := Tryd.underlying87
  a46 := Tryd.isAgg87
  z46 := Tryd.sizeOf87
  v46 := Tryd.zeroValue87
  t51 := Tryd.underlying85
  a51 := Tryd.isAgg85
  z51 := Tryd.sizeOf85
  v51 := Tryd.zeroValue85 }
theorem Tryd.bits_Len32 (x : Int) (w : World) (h0 : 0 ≤ x) (h1 : x ≤ 4294967295) :
    Calls Tryd.prog 118 #[.int .u32 x] w fun e w' => e = .returned (.int .i64 (Lib.bitLen x.toNat)) ∧ w' = w := Any.bits_Len32 Tryd.lays128 x w h0 h1
def Tryd.lays133_ren : Go.Shelf.Ren := ⟨fun | 133 => 110 | 128 => 118 | n => n, fun | 51 => 85 | 3 => 3 | 4 => 4 | 46 => 87 | 5 => 5 | 9 => 9 | n => n, fun | n => n⟩
theorem Tryd.lays133 : Go.Proofs.Lays.n133 Tryd.prog Tryd.lays133_ren := {
  mixed := by kernel_rfl
  f128 := Tryd.func118.trans (congrArg some (by kernel_rfl))
  f133 := Tryd.func110.trans (congrArg some (by kernel_rfl))
  t3 := Tryd.underlying3
  a3 := Tryd.isAgg3
  z3 := Tryd.sizeOf3
  v3 := Tryd.zeroValue3
  t4 := Tryd.underlying4
  a4 := Tryd.isAgg4
  z4 := Tryd.sizeOf4
  v4 := Tryd.zeroValue4
  t5 := Tryd.underlying5
  a5 := Tryd.isAgg5
  z5 := Tryd.sizeOf5
  v5 := Tryd.zeroValue5
  t9 := Tryd.underlying9
  a9 := Tryd.isAgg9
  z9 := Tryd.sizeOf9
  v9 := Tryd.zeroValue9
  t46 := Tryd.underlying87
  a46 := Tryd.isAgg87
  z46 := Tryd.sizeOf87
  v46 := Tryd.zeroValue87
  t51 := Tryd.underlying85
  a51 := Tryd.isAgg85
  z51 := Tryd.sizeOf85
  v51 := Tryd.zeroValue85 }
theorem Tryd.bits_LeadingZeros32 (x : Int) (w : World) (h0 : 0 ≤ x) (h1 : x ≤ 4294967295) :
    Calls Tryd.prog 110 #[.int .u32 x] w fun e w' => e = .returned (.int .i64 (32 - (Lib.bitLen x.toNat : Int))) ∧ w' = w := Any.bits_LeadingZeros32 Tryd.lays133 x w h0 h1
def Tryd.lays213_ren : Go.Shelf.Ren := ⟨fun | 213 => 97 | 265 => 108 | n => n, fun | 9 => 9 | 3 => 3 | n => n, fun | n => n⟩
theorem Tryd.lays213 : Go.Proofs.Lays.n213 Tryd.prog Tryd.lays213_ren := {
  mixed := by kernel_rfl
  f213 := Tryd.func97.trans (congrArg some (by kernel_rfl))
  f265 := Tryd.func108.trans (congrArg some (by kernel_rfl))
  t3 := Tryd.underlying3
  a3 := Tryd.isAgg3
  z3 := Tryd.sizeOf3
  v3 := Tryd.zeroValue3
  t9 := Tryd.underlying9
  a9 := Tryd.isAgg9
  z9 := Tryd.sizeOf9
  v9 := Tryd.zeroValue9 }
open Go.RowKit in
theorem Tryd.bytealg_CompareString (a b : ByteArray) (w : World) :
    Calls Tryd.prog 97 #[.string a, .string b] w fun e w' => e = .returned (.int .i64 (Lib.compareBytes a.data.toList b.data.toList)) ∧ w' = w := Any.bytealg_CompareString Tryd.lays213 a b w
def Tryd.lays106_ren : Go.Shelf.Ren := ⟨fun | 106 => 76 | 213 => 97 | 265 => 108 | n => n, fun | 9 => 9 | 3 => 3 | n => n, fun | n => n⟩
theorem Tryd.lays106 : Go.Proofs.Lays.n106 Tryd.prog Tryd.lays106_ren := {
  mixed := by kernel_rfl
  f106 := Tryd.func76.trans (congrArg some (by kernel_rfl))
  f213 := Tryd.func97.trans (congrArg some (by kernel_rfl))
  f265 := Tryd.func108.trans (congrArg some (by kernel_rfl))
  t3 := Tryd.underlying3
  a3 := Tryd.isAgg3
  z3 := Tryd.sizeOf3
  v3 := Tryd.zeroValue3
  t9 := Tryd.underlying9
  a9 := Tryd.isAgg9
  z9 := Tryd.sizeOf9
  v9 := Tryd.zeroValue9 }
open Go.RowKit in
theorem Tryd.strings_Compare (a b : ByteArray) (w : World) :
    Calls Tryd.prog 76 #[.string a, .string b] w fun e w' => e = .returned (.int .i64 (Lib.compareBytes a.data.toList b.data.toList)) ∧ w' = w := Any.strings_Compare Tryd.lays106 a b w
end Go.Proofs
end
section
/- natural: divide, first two cases: walked. -/
namespace Go.Proofs.YtgmedcncbpdimaaDoor
open Go.RowKit

theorem rSlice_nil32 (w : World) (S : Nat → Prop) : rSlice 1 rU32 w S [.slice none 0 0] (limbsOf 0) := by
  rw [limbsOf_zero]
  exact ⟨none, 0, rfl, by simp, by unfold maxLen; omega, fun _ => rfl, .inl rfl⟩

theorem limbsOf_one {y : Nat} (h : (limbsOf y).length = 1) : limbsOf y = [y] ∧ 0 < y ∧ y < 4294967296 := by
  have h1 := limbsVal_limbsOf y
  have h2 := limbsOf_lt y
  match hl : limbsOf y, h with
  | [z], _ =>
    rw [hl] at h1 h2
    simp only [limbsVal] at h1
    have h3 := h2 z (by simp)
    refine ⟨by simp; omega, ?_, by omega⟩
    rcases Nat.eq_zero_or_pos y with h0 | h0
    · subst h0; rw [limbsOf_zero] at hl; cases hl
    · exact h0

theorem divide_lt (S : Nat → Prop) (u v : Value) (x y : Nat) (w : World) (hS : ∀ b, S b → b < w.heap.size) (hxy : x < y) (hu : rSlice 1 rU32 w S [u] (limbsOf x)) (hv : rSlice 1 rU32 w S [v] (limbsOf y)) :
    Calls Tryd.prog 99 #[u, v] w fun e w' => ∃ q r, e = .returned (.tuple #[q, r]) ∧ rSlice 1 rU32 w' (LT w'.heap.size) [q] (limbsOf (x / y)) ∧ rSlice 1 rU32 w' (LT w'.heap.size) [r] (limbsOf (x % y)) ∧ Below w.heap.size w w' := by
  have hc := compare_any S u v x y w hS hu hv
  rw [natCmp_lt hxy] at hc
  have HC := hid hc
  clear hc
  go_enter Tryd.func99, Tryd.ntmps99
  go_wp2_with fail
  refine Calls.mono HC.out ?_
  rintro e w1 ⟨rfl, hb1⟩
  go_wp2
  go_ret2
  refine ⟨_, _, rfl, ?_, ?_, hb1⟩
  · rw [Nat.div_eq_of_lt hxy]; exact rSlice_nil32 _ _
  · rw [Nat.mod_eq_of_lt hxy]
    exact (stays_rSlice stays_rU32) _ _ _ _ _ _ hu (fun b hb => hb1.block b (hS b hb)) fun b hb => Nat.lt_of_lt_of_le (hS b hb) hb1.size

set_option maxRecDepth 100000 in
theorem divide_small (S : Nat → Prop) (u v : Value) (x y : Nat) (w : World) (hS : ∀ b, S b → b < w.heap.size) (hl : (limbsOf x).length ≤ 1000000000000) (hxy : y ≤ x) (hy1 : (limbsOf y).length = 1) (hu : rSlice 1 rU32 w S [u] (limbsOf x)) (hv : rSlice 1 rU32 w S [v] (limbsOf y)) :
    Calls Tryd.prog 99 #[u, v] w fun e w' => ∃ q r, e = .returned (.tuple #[q, r]) ∧ rSlice 1 rU32 w' (LT w'.heap.size) [q] (limbsOf (x / y)) ∧ rSlice 1 rU32 w' (LT w'.heap.size) [r] (limbsOf (x % y)) ∧ Below w.heap.size w w' := by
  obtain ⟨ey, hy0, hyW⟩ := limbsOf_one hy1
  have hc := compare_any S u v x y w hS hu hv
  have hcn : ¬ natCmp x y < 0 := by unfold natCmp; rw [if_neg (by omega)]; split <;> omega
  have HC := hid hc
  clear hc
  have hv' := hv
  have hu' := hid hu
  have hvx := hid (limbsVal_limbsOf x)
  rw [ey] at hv'
  obtain ⟨va, vc, rfl, v1, v2, v3, v4⟩ := u32s_open hv'
  rcases v4 with v4 | ⟨vb, voff, rfl, v4⟩
  · cases v4
  have g0 := (v4.u32 (j := 0) (by simp)).1
  have hvS := hS vb v4.1
  simp only [List.getElem_cons_zero, Nat.add_zero] at g0
  have hsz : ([y] : List Nat).length = 1 := rfl
  clear hv hv' ey
  go_enter Tryd.func99, Tryd.ntmps99
  go_wp2_with fail
  refine Calls.mono HC.out ?_
  rintro e w1 ⟨rfl, hb1⟩
  rw [← hb1.cell (p := ⟨vb, voff, none⟩) hvS] at g0
  have hu1 : rSlice 1 rU32 w1 (LT w1.heap.size) [u] (limbsOf x) := (stays_rSlice stays_rU32) _ _ _ _ _ _ hu'.out (fun b hb => hb1.block b (hS b hb)) fun b hb => Nat.lt_of_lt_of_le (hS b hb) hb1.size
  have HD := hid (divideSmall_any _ _ _ y _ (fun _ h => h) hl hy0 hyW hu1)
  rw [hvx.out] at HD
  have hxm : x % y < 4294967296 := Nat.lt_of_lt_of_le (Nat.mod_lt _ hy0) (by omega)
  go_wp2_with fail
  refine Calls.mono HD.out ?_
  rintro e w2 ⟨q, rfl, hq, hb2⟩
  have hO : OwnL (w2.alloc (.cells #[.int .u32 ((x % y : Nat) : Int)] 85)) w2.heap.size 1 [x % y] := by
    refine ⟨rfl, fun z hz => by simp at hz; omega, fun j => .int .u32 (([x % y] : List Nat).getD j 0 : Nat), ?_, fun j => rfl⟩
    have := Own.new w2 85 1 (fun j => .int .u32 (([x % y] : List Nat).getD j 0 : Nat))
    have e : (Array.range 1).map (fun j => Value.int .u32 (([x % y] : List Nat).getD j 0 : Nat)) = #[.int .u32 ((x % y : Nat) : Int)] := by
      apply Array.ext'
      simp [List.range_succ]
    rw [e] at this
    exact this
  have hT := trim_any _ _ _ _ (hO.slice (by omega))
  have e1 : limbsVal [x % y] = x % y := by simp [limbsVal]
  rw [e1] at hT
  have HT := hid hT
  have hb3 : Below w2.heap.size w2 (w2.alloc (.cells #[.int .u32 ((x % y : Nat) : Int)] 85)) := (Below.refl _ _).alloc (Nat.le_refl _) _
  clear hT e1 hO hu1
  go_wp2_with fail
  refine Calls.mono HT.out ?_
  rintro e w3 ⟨r, rfl, rfl, hr⟩
  go_wp2
  go_ret2
  exact ⟨_, _, rfl, (stays_rSlice stays_rU32).below hq hb3 hb3.size, hr, hb1.step (hb2.step hb3)⟩

end Go.Proofs.YtgmedcncbpdimaaDoor
end
section
/- insolvencyref1: divide, first two cases: walked. -/
namespace Go.Proofs.YtgmedcncbpdimaaDoor
open Go.RowKit

theorem rdivide_lt (S : Nat → Prop) (u v : Value) (x y : Nat) (w : World) (hS : ∀ b, S b → b < w.heap.size) (hxy : x < y) (hu : rSlice 1 rU32 w S [u] (limbsOf x)) (hv : rSlice 1 rU32 w S [v] (limbsOf y)) :
    Calls Tryd.prog 91 #[u, v] w fun e w' => ∃ q r, e = .returned (.tuple #[q, r]) ∧ rSlice 1 rU32 w' (LT w'.heap.size) [q] (limbsOf (x / y)) ∧ rSlice 1 rU32 w' (LT w'.heap.size) [r] (limbsOf (x % y)) ∧ Below w.heap.size w w' := by
  have hc := order_any S u v x y w hS hu hv
  rw [natCmp_lt hxy] at hc
  have HC := hid hc
  clear hc
  go_enter Tryd.func91, Tryd.ntmps91
  go_wp2_with fail
  refine Calls.mono HC.out ?_
  rintro e w1 ⟨rfl, hb1⟩
  go_wp2
  go_ret2
  refine ⟨_, _, rfl, ?_, ?_, hb1⟩
  · rw [Nat.div_eq_of_lt hxy]; exact rSlice_nil32 _ _
  · rw [Nat.mod_eq_of_lt hxy]
    exact (stays_rSlice stays_rU32) _ _ _ _ _ _ hu (fun b hb => hb1.block b (hS b hb)) fun b hb => Nat.lt_of_lt_of_le (hS b hb) hb1.size

set_option maxRecDepth 100000 in
theorem rdivide_small (S : Nat → Prop) (u v : Value) (x y : Nat) (w : World) (hS : ∀ b, S b → b < w.heap.size) (hl : (limbsOf x).length ≤ 1000000000000) (hxy : y ≤ x) (hy1 : (limbsOf y).length = 1) (hu : rSlice 1 rU32 w S [u] (limbsOf x)) (hv : rSlice 1 rU32 w S [v] (limbsOf y)) :
    Calls Tryd.prog 91 #[u, v] w fun e w' => ∃ q r, e = .returned (.tuple #[q, r]) ∧ rSlice 1 rU32 w' (LT w'.heap.size) [q] (limbsOf (x / y)) ∧ rSlice 1 rU32 w' (LT w'.heap.size) [r] (limbsOf (x % y)) ∧ Below w.heap.size w w' := by
  obtain ⟨ey, hy0, hyW⟩ := limbsOf_one hy1
  have hc := order_any S u v x y w hS hu hv
  have hcn : ¬ natCmp x y < 0 := by unfold natCmp; rw [if_neg (by omega)]; split <;> omega
  have HC := hid hc
  clear hc
  have hv' := hv
  have hu' := hid hu
  have hvx := hid (limbsVal_limbsOf x)
  rw [ey] at hv'
  obtain ⟨va, vc, rfl, v1, v2, v3, v4⟩ := u32s_open hv'
  rcases v4 with v4 | ⟨vb, voff, rfl, v4⟩
  · cases v4
  have g0 := (v4.u32 (j := 0) (by simp)).1
  have hvS := hS vb v4.1
  simp only [List.getElem_cons_zero, Nat.add_zero] at g0
  have hsz : ([y] : List Nat).length = 1 := rfl
  clear hv hv' ey
  go_enter Tryd.func91, Tryd.ntmps91
  go_wp2_with fail
  refine Calls.mono HC.out ?_
  rintro e w1 ⟨rfl, hb1⟩
  rw [← hb1.cell (p := ⟨vb, voff, none⟩) hvS] at g0
  have hu1 : rSlice 1 rU32 w1 (LT w1.heap.size) [u] (limbsOf x) := (stays_rSlice stays_rU32) _ _ _ _ _ _ hu'.out (fun b hb => hb1.block b (hS b hb)) fun b hb => Nat.lt_of_lt_of_le (hS b hb) hb1.size
  have HD := hid (short_any _ _ _ y _ (fun _ h => h) hl hy0 hyW hu1)
  rw [hvx.out] at HD
  have hxm : x % y < 4294967296 := Nat.lt_of_lt_of_le (Nat.mod_lt _ hy0) (by omega)
  go_wp2_with fail
  refine Calls.mono HD.out ?_
  rintro e w2 ⟨q, rfl, hq, hb2⟩
  have hO : OwnL (w2.alloc (.cells #[.int .u32 ((x % y : Nat) : Int)] 85)) w2.heap.size 1 [x % y] := by
    refine ⟨rfl, fun z hz => by simp at hz; omega, fun j => .int .u32 (([x % y] : List Nat).getD j 0 : Nat), ?_, fun j => rfl⟩
    have := Own.new w2 85 1 (fun j => .int .u32 (([x % y] : List Nat).getD j 0 : Nat))
    have e : (Array.range 1).map (fun j => Value.int .u32 (([x % y] : List Nat).getD j 0 : Nat)) = #[.int .u32 ((x % y : Nat) : Int)] := by
      apply Array.ext'
      simp [List.range_succ]
    rw [e] at this
    exact this
  have hT := strip_any _ _ _ _ (hO.slice (by omega))
  have e1 : limbsVal [x % y] = x % y := by simp [limbsVal]
  rw [e1] at hT
  have HT := hid hT
  have hb3 : Below w2.heap.size w2 (w2.alloc (.cells #[.int .u32 ((x % y : Nat) : Int)] 85)) := (Below.refl _ _).alloc (Nat.le_refl _) _
  clear hT e1 hO hu1
  go_wp2_with fail
  refine Calls.mono HT.out ?_
  rintro e w3 ⟨r, rfl, rfl, hr⟩
  go_wp2
  go_ret2
  exact ⟨_, _, rfl, (stays_rSlice stays_rU32).below hq hb3 hb3.size, hr, hb1.step (hb2.step hb3)⟩

end Go.Proofs.YtgmedcncbpdimaaDoor
end
