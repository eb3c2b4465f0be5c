/- natural: unshift: walked. -/
import Derived.Test.YtinaeglgfomlaaaGreatDoorNat10M
import Derived.Test.YtinaeglgfomlaaaGreatDoorNumM
import Derived.Shelf.Small.Bits
import Derived.Shelf.Small.Strs
import Derived.Test.YtinaeglgfomlaaaGreatDoorProg
set_option linter.unusedVariables false
set_option linter.unusedSimpArgs false
set_option linter.defProp false
set_option linter.unnecessarySimpa false
set_option linter.unusedSectionVars false
section
/- natural: unshift: walked. -/
namespace Go.Proofs.YtinaeglgfomlaaaGreatDoor
open Go.RowKit
theorem or32_add' (x r : Nat) (hx : x < 4294967296) (hr : r < 4294967296) : bits .or .u64 (x : Int) ((r : Int) * 4294967296) = ((r * 4294967296 + x : Nat) : Int) := by
  have e : (r : Int) * 4294967296 = ((r * 2 ^ 32 : Nat) : Int) := by rw [Int.natCast_mul]; rfl
  rw [e, u64_or_nat _ _ (by omega) (by omega), or_add x r 32 (by omega)]
theorem unshift_digit {xs : List Nat} (hxs : ∀ x ∈ xs, x < 4294967296) (i s : Nat) (hi : i < xs.length) (hs : s < 32) : (xs.getD (i + 1) 0 * 4294967296 + xs[i]) / 2 ^ s % 4294967296 = limbsVal xs / 2 ^ s / 4294967296 ^ i % 4294967296 := by
  have hx : ∃ r l, limbsVal xs = l + 4294967296 ^ i * (xs[i] + 4294967296 * xs.getD (i + 1) 0 + 18446744073709551616 * r) ∧ l = limbsVal (xs.take i) := by
    refine ⟨limbsVal (xs.drop (i + 2)), limbsVal (xs.take i), ?_, rfl⟩
    have e1 : limbsVal xs = limbsVal (xs.take i) + 4294967296 ^ i * limbsVal (xs.drop i) := by
      conv => lhs; rw [← List.take_append_drop i xs]
      rw [limbsVal_append, List.length_take, Nat.min_eq_left (by omega)]
    have e2 : limbsVal (xs.drop i) = xs[i] + 4294967296 * limbsVal (xs.drop (i + 1)) := by rw [List.drop_eq_getElem_cons hi]; rfl
    have e3 : limbsVal (xs.drop (i + 1)) = xs.getD (i + 1) 0 + 4294967296 * limbsVal (xs.drop (i + 2)) := by
      by_cases h : i + 1 < xs.length
      · rw [List.drop_eq_getElem_cons h]; simp [List.getD, h, limbsVal]
      rw [List.drop_of_length_le (by omega), List.drop_of_length_le (by omega)]; simp [List.getD, List.getElem?_eq_none (by omega : xs.length ≤ i + 1), limbsVal]
    rw [e1, e2, e3, Nat.mul_add 4294967296 (xs.getD (i + 1) 0)]
    congr 2
    omega
  obtain ⟨r, l, hR, hl⟩ := hx
  have hl' : l < 4294967296 ^ i := by
    have := limbsVal_lt (xs := xs.take i) (fun x hx => hxs x (List.mem_of_mem_take hx))
    rw [List.length_take, Nat.min_eq_left (by omega)] at this
    rw [hl]; exact this
  rw [Nat.div_div_eq_div_mul, Nat.mul_comm (2 ^ s), ← Nat.div_div_eq_div_mul, hR, Nat.add_mul_div_left _ _ (ww_pos i), Nat.div_eq_of_lt hl', Nat.zero_add]
  have e1 : (18446744073709551616 : Nat) * r = 2 ^ s * (4294967296 * (2 ^ (32 - s) * r)) := by
    have : (18446744073709551616 : Nat) = 2 ^ s * (4294967296 * 2 ^ (32 - s)) := by
      have e2 : (4294967296 : Nat) = 2 ^ 32 := by decide
      rw [e2, ← Nat.pow_add, ← Nat.pow_add, show s + (32 + (32 - s)) = 64 by omega]
    conv => lhs; rw [this]
    rw [Nat.mul_assoc, Nat.mul_assoc]
  rw [e1, Nat.add_mul_div_left _ _ (Nat.pow_pos (by decide)), Nat.add_mul_mod_self_left, Nat.mul_comm (xs.getD (i + 1) 0), Nat.add_comm]
set_option maxRecDepth 100000 in
set_option maxHeartbeats 1000000 in
theorem unshift_any (S : Nat → Prop) (u : Value) (xs : List Nat) (s : Nat) (w : World) (hS : ∀ b, S b → b < w.heap.size) (hl : xs.length ≤ 1000000000000) (hs : s < 32) (hu : rSlice 1 rU32 w S [u] xs) :
    Calls Tryz.prog 179 #[u, .int .u64 s] w fun e w' => ∃ r, e = .returned r ∧ rSlice 1 rU32 w' (LT w'.heap.size) [r] (limbsOf (limbsVal xs / 2 ^ s)) ∧ Below w.heap.size w w' := by
  have hxlt := hid (u32s_lt hu)
  obtain ⟨xa, xc, rfl, x1, x2, x3, x4⟩ := u32s_open hu
  have hn' := len_le x1 x2
  have hmk := fun (w : World) => make_one (P := Tryz.prog) Tryz.underlying194 Tryz.infoU32 rfl w xs.length (by omega) (by omega)
  go_enter Tryz.func179, Tryz.ntmps179
  go_wp2
  clear hmk
  go_loopw [6, 7, 13] (fun _ _ i wr => ∃ (k : Nat) (o : List Nat), k ≤ xs.length ∧ i = .int .i64 k ∧ Below w.heap.size w wr ∧ OwnL wr w.heap.size xs.length o ∧
      Hid (∀ j, j < k → o.getD j 0 = limbsVal xs / 2 ^ s / 4294967296 ^ j % 4294967296)) (fun _ _ i _ => xs.length - (intOf i).toNat)
  case atStart => exact ⟨0, _, Nat.zero_le _, rfl, (Below.refl _ _).alloc (Nat.le_refl _) _, OwnL.new _ _, fun j hj => by omega⟩
  case round =>
    obtain ⟨k, o, hk, rfl, hbw, hown, HE⟩ := hrel
    by_cases hlt : k < xs.length
    · rcases x4 with rfl | ⟨b1, off1, rfl, x4⟩
      · simp at hlt
      obtain ⟨g0, g1⟩ := x4.u32 hlt
      rw [← hbw.cell (p := ⟨b1, off1 + k, none⟩) (hS _ x4.1)] at g0
      have hko : k < o.length := by rw [hown.1]; omega
      have c1 := hown.cell hko
      have c2 := hown.frozen k
      have HD := hid (unshift_digit hxlt.out k s hlt hs)
      obtain ⟨x, hx⟩ : ∃ x, x = xs[k] := ⟨_, rfl⟩
      rw [← hx] at g0 g1 HD
      clear hx
      by_cases hk1 : k + 1 < xs.length
      · obtain ⟨f0, f1⟩ := x4.u32 hk1
        rw [← hbw.cell (p := ⟨b1, off1 + (k + 1), none⟩) (hS _ x4.1)] at f0
        have ey : xs.getD (k + 1) 0 = xs[k + 1] := by simp [List.getD, hk1]
        rw [ey] at HD
        obtain ⟨y, hy⟩ : ∃ y, y = xs[k + 1] := ⟨_, rfl⟩
        rw [← hy] at f0 f1 HD
        clear hy ey
        have o1 := or32_add' x y g1 f1
        obtain ⟨d, hd⟩ : ∃ d : Nat, d = (y * 4294967296 + x) / 2 ^ s % 4294967296 := ⟨_, rfl⟩
        have hd1 : d < 4294967296 := by rw [hd]; exact Nat.mod_lt _ (by decide)
        have HV := hid (show ((y : Int) * 4294967296 + (x : Int)) / 2 ^ s % 4294967296 = (d : Int) by
          rw [hd, Int.natCast_emod, Int.natCast_ediv, Int.natCast_pow]; try rw [Int.natCast_add, Int.natCast_mul]
          rfl)
        skip
        rw [HD.out] at hd
        have HD2 := hid hd
        clear hd HD
        go_wp2
        go_roundw
        case rel =>
          rw [HV.out]
          refine ⟨k + 1, o.set k d, by omega, by go_num, hbw.setCell (Nat.le_refl _) _, hown.set hko hd1, fun j hj => ?_⟩
          by_cases hjk : j = k
          · subst hjk; rw [← HD2.out]; simp [List.getD, hko]
          rw [← HE.out j (by omega)]; simp [List.getD, List.getElem?_set, show ¬ k = j by omega]
        case measure => simp [intOf]; omega
      have ey : xs.getD (k + 1) 0 = 0 := by simp [List.getD, List.getElem?_eq_none (by omega : xs.length ≤ k + 1)]
      rw [ey] at HD
      clear ey
      obtain ⟨d, hd⟩ : ∃ d : Nat, d = x / 2 ^ s % 4294967296 := ⟨_, rfl⟩
      have hd1 : d < 4294967296 := by rw [hd]; exact Nat.mod_lt _ (by decide)
      have HV := hid (show (x : Int) / 2 ^ s % 4294967296 = (d : Int) by
        rw [hd, Int.natCast_emod, Int.natCast_ediv, Int.natCast_pow]; try rw [Int.natCast_add, Int.natCast_mul]
        rfl)
      rw [show x = 0 * 4294967296 + x by omega] at hd
      rw [HD.out] at hd
      have HD2 := hid hd
      clear hd HD
      go_wp2
      go_roundw
      case rel =>
        rw [HV.out]
        refine ⟨k + 1, o.set k d, by omega, by go_num, hbw.setCell (Nat.le_refl _) _, hown.set hko hd1, fun j hj => ?_⟩
        by_cases hjk : j = k
        · subst hjk; rw [← HD2.out]; simp [List.getD, hko]
        rw [← HE.out j (by omega)]; simp [List.getD, List.getElem?_set, show ¬ k = j by omega]
      case measure => simp [intOf]; omega
    have hoe : o = limbsFix xs.length (limbsVal xs / 2 ^ s) := by
      apply List.ext_getElem?
      intro j
      by_cases hj : j < xs.length
      · have h1 := HE.out j (by omega)
        rw [limbsFix_get _ _ _ hj, ← h1]
        have : j < o.length := by rw [hown.1]; exact hj
        simp [List.getD, this]
      rw [List.getElem?_eq_none (by rw [hown.1]; omega), List.getElem?_eq_none (by rw [limbsFix_len]; omega)]
    have hval : limbsVal o = limbsVal xs / 2 ^ s := by
      rw [hoe, limbsFix_val]
      apply Nat.mod_eq_of_lt
      exact Nat.lt_of_le_of_lt (Nat.div_le_self _ _) (limbsVal_lt hxlt.out)
    have hT := trim_any _ _ _ _ (hown.slice (by omega))
    rw [hval] at hT
    have HT := hid hT
    clear hval hoe hT
    go_wp2_with fail
    refine Calls.mono HT.out ?_
    rintro e' w3 ⟨r, rfl, rfl, hr⟩
    go_wp2
    go_ret
    exact ⟨_, rfl, hr, hbw⟩
end Go.Proofs.YtinaeglgfomlaaaGreatDoor
end
section
/- Long division, one digit (Knuth's algorithm D): plain. -/
namespace Go.Proofs.YtinaeglgfomlaaaGreatDoor
section
variable {D U M D0 U0 dt d2 top u2 : Nat} (hD : D = (dt * 4294967296 + d2) * M + D0) (hU : U = (top * 4294967296 + u2) * M + U0) (hD0 : D0 < M) (hU0 : U0 < M)
include hD hU hU0
theorem knuth_dec {G R : Nat} (h : G * dt + R = top) (hg : R * 4294967296 + u2 < G * d2) : U < G * D := by
  have h1 : (top * 4294967296 + u2 + 1) * M ≤ (G * (dt * 4294967296 + d2)) * M := by
    apply Nat.mul_le_mul_right
    rw [← h, Nat.mul_add, Nat.add_mul, ← Nat.mul_assoc]
    omega
  rw [Nat.add_mul, Nat.one_mul] at h1
  have h2 : G * D = G * (dt * 4294967296 + d2) * M + G * D0 := by rw [hD, Nat.mul_add, ← Nat.mul_assoc]
  rw [hU, h2]
  omega
include hD0
theorem knuth_exit {G R : Nat} (hdt : 0 < dt) (h : G * dt + R = top) (hg : G * d2 ≤ R * 4294967296 + u2) (hG : G ≤ 4294967296) : G * D ≤ U + D := by
  have h1 : (G * (dt * 4294967296 + d2)) * M ≤ (top * 4294967296 + u2) * M := by
    apply Nat.mul_le_mul_right
    rw [← h, Nat.mul_add, Nat.add_mul, ← Nat.mul_assoc]
    omega
  have h2 : G * D = G * (dt * 4294967296 + d2) * M + G * D0 := by rw [hD, Nat.mul_add, ← Nat.mul_assoc]
  have h3 : G * D0 ≤ 4294967296 * M := Nat.mul_le_mul hG (Nat.le_of_lt hD0)
  have h4 : 4294967296 * M ≤ (dt * 4294967296 + d2) * M := Nat.mul_le_mul_right _ (by omega)
  rw [h2]
  omega
end
theorem limbsVal_split (xs : List Nat) (m : Nat) (hm : m ≤ xs.length) : limbsVal xs = limbsVal (xs.take m) + 4294967296 ^ m * limbsVal (xs.drop m) := by
  conv => lhs; rw [← List.take_append_drop m xs]
  rw [limbsVal_append, List.length_take, Nat.min_eq_left hm]
theorem split_top2 {xs : List Nat} (h : ∀ x ∈ xs, x < 4294967296) (m : Nat) (hl : xs.length = m + 2) :
    ∃ X0, X0 < 4294967296 ^ m ∧ limbsVal xs = (xs.getD (m + 1) 0 * 4294967296 + xs.getD m 0) * 4294967296 ^ m + X0 := by
  refine ⟨limbsVal (xs.take m), ?_, ?_⟩
  · have := limbsVal_lt (xs := xs.take m) (fun x hx => h x (List.mem_of_mem_take hx))
    rwa [List.length_take, Nat.min_eq_left (by omega)] at this
  rw [limbsVal_split xs m (by omega)]
  have e : xs.drop m = [xs.getD m 0, xs.getD (m + 1) 0] := by
    rw [List.drop_eq_getElem_cons (by omega), List.drop_eq_getElem_cons (by omega), List.drop_of_length_le (by omega)]
    simp [List.getD, show m < xs.length by omega, show m + 1 < xs.length by omega]
  rw [e]
  simp only [limbsVal]
  rw [Nat.mul_comm (4294967296 ^ m), Nat.add_comm, Nat.mul_comm 4294967296, Nat.mul_zero, Nat.add_zero]
  congr 2
  omega
theorem split_top3 {xs : List Nat} (h : ∀ x ∈ xs, x < 4294967296) (m : Nat) (hl : xs.length = m + 3) :
    ∃ X0, X0 < 4294967296 ^ m ∧ limbsVal xs = ((xs.getD (m + 2) 0 * 4294967296 + xs.getD (m + 1) 0) * 4294967296 + xs.getD m 0) * 4294967296 ^ m + X0 := by
  refine ⟨limbsVal (xs.take m), ?_, ?_⟩
  · have := limbsVal_lt (xs := xs.take m) (fun x hx => h x (List.mem_of_mem_take hx))
    rwa [List.length_take, Nat.min_eq_left (by omega)] at this
  rw [limbsVal_split xs m (by omega)]
  have e : xs.drop m = [xs.getD m 0, xs.getD (m + 1) 0, xs.getD (m + 2) 0] := by
    rw [List.drop_eq_getElem_cons (by omega), List.drop_eq_getElem_cons (by omega), List.drop_eq_getElem_cons (by omega), List.drop_of_length_le (by omega)]
    simp [List.getD, show m < xs.length by omega, show m + 1 < xs.length by omega, show m + 2 < xs.length by omega]
  rw [e]
  simp only [limbsVal]
  rw [Nat.mul_comm (4294967296 ^ m), Nat.add_comm, Nat.mul_zero, Nat.add_zero]
  congr 2
  omega
theorem knuth_two {U D G : Nat} (hD : 0 < D) (h1 : U < (G + 1) * D) (h2 : G * D ≤ U + D) : G = U / D ∨ G = U / D + 1 := by
  have h3 : U / D ≤ G := by
    have := Nat.div_lt_of_lt_mul (show U < D * (G + 1) by rw [Nat.mul_comm]; exact h1)
    omega
  have h4 : G ≤ U / D + 1 := by
    have h5 : U < (U / D + 1) * D := by rw [Nat.mul_comm]; exact Nat.lt_mul_div_succ U hD
    rcases Nat.lt_or_ge (U / D + 1) G with h | h
    · exfalso
      have h6 : (U / D + 1 + 1) * D ≤ G * D := Nat.mul_le_mul_right _ h
      rw [Nat.add_mul, Nat.one_mul] at h6
      omega
    exact h
  omega
theorem knuth_un {D U M D0 U0 dt d2 un u1 u2 : Nat} (hDe : D = (dt * 4294967296 + d2) * M + D0) (hUe : U = ((un * 4294967296 + u1) * 4294967296 + u2) * M + U0) (hD0 : D0 < M) (l4 : d2 < 4294967296) (hU : U < 4294967296 * D) : un ≤ dt := by
  rcases Nat.lt_or_ge dt un with h | h
  · exfalso
    have h1 : (dt * 4294967296 + d2 + 1) * M ≤ (dt + 1) * 4294967296 * M := Nat.mul_le_mul_right _ (by omega)
    have h2 : (dt + 1) * 4294967296 * 4294967296 * M ≤ ((un * 4294967296 + u1) * 4294967296 + u2) * M := Nat.mul_le_mul_right _ (by omega)
    rw [Nat.add_mul, Nat.one_mul] at h1
    have h3 : (dt + 1) * 4294967296 * 4294967296 * M = 4294967296 * ((dt + 1) * 4294967296 * M) := by rw [Nat.mul_assoc ((dt + 1) * 4294967296), Nat.mul_left_comm]
    omega
  exact h
theorem knuth_first' {W D U M D0 U0 dt d2 t u2 G0 R0 : Nat} (hDe : D = (dt * W + d2) * M + D0) (hUe : U = (t * W + u2) * M + U0) (hU0 : U0 < M) (l2 : u2 < W)
    (hGR : G0 * dt + R0 = t) (hR0l : R0 < dt) : U < (G0 + 1) * D := by
  have h1 : t + 1 ≤ (G0 + 1) * dt := by rw [Nat.add_mul]; omega
  have h2 : (t + 1) * (W * M) ≤ (G0 + 1) * dt * (W * M) := Nat.mul_le_mul_right _ h1
  have h3 : dt * (W * M) ≤ D := by
    rw [hDe, Nat.add_mul, Nat.mul_assoc, Nat.add_assoc]
    exact Nat.le_add_right _ _
  have h3' : (G0 + 1) * (dt * (W * M)) ≤ (G0 + 1) * D := Nat.mul_le_mul_left _ h3
  rw [← Nat.mul_assoc (G0 + 1) dt] at h3'
  have h5 : t * W + u2 + 1 ≤ (t + 1) * W := by rw [Nat.add_mul]; omega
  have h6 : (t * W + u2 + 1) * M ≤ (t + 1) * W * M := Nat.mul_le_mul_right _ h5
  rw [Nat.add_mul (t * W + u2), Nat.one_mul, Nat.mul_assoc (t + 1)] at h6
  rw [hUe]
  generalize (t * W + u2) * M = a at *
  generalize (t + 1) * (W * M) = b at *
  omega
theorem knuth_first {D U M D0 U0 dt d2 un u1 u2 G0 R0 : Nat} (hDe : D = (dt * 4294967296 + d2) * M + D0) (hUe : U = ((un * 4294967296 + u1) * 4294967296 + u2) * M + U0) (hU0 : U0 < M) (l2 : u2 < 4294967296)
    (hGR : G0 * dt + R0 = un * 4294967296 + u1) (hR0l : R0 < dt) : U < (G0 + 1) * D := knuth_first' hDe hUe hU0 l2 hGR hR0l
theorem knuth_g0 {dt un u1 G0 R0 : Nat} (hdt : 2147483648 ≤ dt) (hun : un ≤ dt) (l1 : u1 < 4294967296) (hGR : G0 * dt + R0 = un * 4294967296 + u1) : G0 ≤ 4294967297 := by
  rcases Nat.lt_or_ge 4294967297 G0 with h | h
  · exfalso
    have : 4294967298 * dt ≤ G0 * dt := Nat.mul_le_mul_right _ h
    omega
  exact h
theorem knuth_end0 {U D G U' : Nat} (hD : 0 < D) (h : G = U / D ∨ G = U / D + 1) (he : U' + G * D = U) : G = U / D ∧ U' = U % D := by
  have h1 := Nat.div_add_mod U D
  rw [Nat.mul_comm] at h1
  have h2 := Nat.mod_lt U hD
  rcases h with h | h
  · rw [h] at he; exact ⟨h, by omega⟩
  exfalso; rw [h, Nat.add_mul] at he; omega
theorem knuth_end1 {U D G U' P : Nat} (hD : 0 < D) (h : G = U / D ∨ G = U / D + 1) (hP : U' < P) (he : U' + G * D = U + P) : G = U / D + 1 ∧ U' + D = P + U % D := by
  have h1 := Nat.div_add_mod U D
  rw [Nat.mul_comm] at h1
  rcases h with h | h
  · exfalso; rw [h] at he; omega
  refine ⟨h, ?_⟩; rw [h, Nat.add_mul] at he; omega
theorem take_set_snoc {o : List Nat} {off k d : Nat} (hk : off + k < o.length) : ((o.set (off + k) d).drop off).take (k + 1) = (o.drop off).take k ++ [d] := by
  apply List.ext_getElem?
  intro i
  rcases Nat.lt_trichotomy i k with h | h | h
  · rw [List.getElem?_append_left (by simp; omega)]
    simp [List.getElem?_take, show i < k + 1 by omega, h, List.getElem?_set, show ¬ k = i by omega]
  · subst h
    rw [List.getElem?_append_right (by simp; omega)]
    simp [List.getElem?_take, hk, show min i (o.length - off) = i by omega]
  rw [List.getElem?_eq_none (by simp; omega), List.getElem?_eq_none (by simp; omega)]
theorem take_len {o : List Nat} {off k : Nat} (hk : off + k ≤ o.length) : ((o.drop off).take k).length = k := by simp; omega
theorem take_succ_off {o : List Nat} {off k : Nat} (hk : off + k < o.length) : (o.drop off).take (k + 1) = (o.drop off).take k ++ [o.getD (off + k) 0] := by
  rw [List.take_succ_eq_append_getElem (by simp; omega)]
  simp [List.getD, hk]
end Go.Proofs.YtinaeglgfomlaaaGreatDoor
end
section
/- Contracts of the kit's shelf, laid at this translation by the kit's own tool: bits.Len32, bits.LeadingZeros32, strings.Compare. -/
namespace Go.Proofs
open Go.Shelf
def Tryz.lays133_ren : Go.Shelf.Ren := ⟨fun | 133 => 176 | 128 => 168 | n => n, fun | 51 => 196 | 3 => 3 | 4 => 4 | 46 => 115 | 5 => 5 | 9 => 9 | n => n, fun | n => n⟩
theorem Tryz.lays133 : Go.Proofs.Lays.n133 Tryz.prog Tryz.lays133_ren := {
  mixed := by kernel_rfl
  f128 := Tryz.func168.trans (congrArg some (by kernel_rfl))
  f133 := Tryz.func176.trans (congrArg some (by kernel_rfl))
  t3 := Tryz.underlying3
  a3 := Tryz.isAgg3
  z3 := Tryz.sizeOf3
  v3 := Tryz.zeroValue3
  t4 := Tryz.underlying4
  a4 := Tryz.isAgg4
  z4 := Tryz.sizeOf4
  v4 := Tryz.zeroValue4
  t5 := Tryz.underlying5
  a5 := Tryz.isAgg5
  z5 := Tryz.sizeOf5
  v5 := Tryz.zeroValue5
  t9 := Tryz.underlying9
  a9 := Tryz.isAgg9
  z9 := Tryz.sizeOf9
  v9 := Tryz.zeroValue9
  t46 := Tryz.underlying115
  a46 := Tryz.isAgg115
  z46 := Tryz.sizeOf115
  v46 := Tryz.zeroValue115
  t51 := Tryz.underlying196
  a51 := Tryz.isAgg196
  z51 := Tryz.sizeOf196
  v51 := Tryz.zeroValue196 }
theorem Tryz.bits_LeadingZeros32 (x : Int) (w : World) (h0 : 0 ≤ x) (h1 : x ≤ 4294967295) :
    Calls Tryz.prog 176 #[.int .u32 x] w fun e w' => e = .returned (.int .i64 (32 - (Lib.bitLen x.toNat : Int))) ∧ w' = w := Any.bits_LeadingZeros32 Tryz.lays133 x w h0 h1
end Go.Proofs
end
section
/- natural: divide, first two cases: walked. -/
namespace Go.Proofs.YtinaeglgfomlaaaGreatDoor
open Go.RowKit
theorem rSlice_nil32 (w : World) (S : Nat → Prop) : rSlice 1 rU32 w S [.slice none 0 0] (limbsOf 0) := by
  rw [limbsOf_zero]
  exact ⟨none, 0, rfl, by simp, by unfold maxLen; omega, fun _ => rfl, .inl rfl⟩
theorem limbsOf_one {y : Nat} (h : (limbsOf y).length = 1) : limbsOf y = [y] ∧ 0 < y ∧ y < 4294967296 := by
  have h1 := limbsVal_limbsOf y
  have h2 := limbsOf_lt y
  match hl : limbsOf y, h with
  | [z], _ =>
    rw [hl] at h1 h2
    simp only [limbsVal] at h1
    have h3 := h2 z (by simp)
    refine ⟨by simp; omega, ?_, by omega⟩
    rcases Nat.eq_zero_or_pos y with h0 | h0
    · subst h0; rw [limbsOf_zero] at hl; cases hl
    exact h0
theorem divide_lt (S : Nat → Prop) (u v : Value) (x y : Nat) (w : World) (hS : ∀ b, S b → b < w.heap.size) (hxy : x < y) (hu : rSlice 1 rU32 w S [u] (limbsOf x)) (hv : rSlice 1 rU32 w S [v] (limbsOf y)) :
    Calls Tryz.prog 148 #[u, v] w fun e w' => ∃ q r, e = .returned (.tuple #[q, r]) ∧ rSlice 1 rU32 w' (LT w'.heap.size) [q] (limbsOf (x / y)) ∧ rSlice 1 rU32 w' (LT w'.heap.size) [r] (limbsOf (x % y)) ∧ Below w.heap.size w w' := by
  have hc := compare_any S u v x y w hS hu hv
  rw [natCmp_lt hxy] at hc
  have HC := hid hc
  clear hc
  go_enter Tryz.func148, Tryz.ntmps148
  go_wp2_with fail
  refine Calls.mono HC.out ?_
  rintro e w1 ⟨rfl, hb1⟩
  go_wp2
  go_ret2
  refine ⟨_, _, rfl, ?_, ?_, hb1⟩
  · rw [Nat.div_eq_of_lt hxy]; exact rSlice_nil32 _ _
  rw [Nat.mod_eq_of_lt hxy]
  exact (stays_rSlice stays_rU32) _ _ _ _ _ _ hu (fun b hb => hb1.block b (hS b hb)) fun b hb => Nat.lt_of_lt_of_le (hS b hb) hb1.size
set_option maxRecDepth 100000 in
theorem divide_small (S : Nat → Prop) (u v : Value) (x y : Nat) (w : World) (hS : ∀ b, S b → b < w.heap.size) (hl : (limbsOf x).length ≤ 1000000000000) (hxy : y ≤ x) (hy1 : (limbsOf y).length = 1) (hu : rSlice 1 rU32 w S [u] (limbsOf x)) (hv : rSlice 1 rU32 w S [v] (limbsOf y)) :
    Calls Tryz.prog 148 #[u, v] w fun e w' => ∃ q r, e = .returned (.tuple #[q, r]) ∧ rSlice 1 rU32 w' (LT w'.heap.size) [q] (limbsOf (x / y)) ∧ rSlice 1 rU32 w' (LT w'.heap.size) [r] (limbsOf (x % y)) ∧ Below w.heap.size w w' := by
  obtain ⟨ey, hy0, hyW⟩ := limbsOf_one hy1
  have hc := compare_any S u v x y w hS hu hv
  have hcn : ¬ natCmp x y < 0 := by unfold natCmp; rw [if_neg (by omega)]; split <;> omega
  have HC := hid hc
  clear hc
  have hv' := hv
  have hu' := hid hu
  have hvx := hid (limbsVal_limbsOf x)
  rw [ey] at hv'
  obtain ⟨va, vc, rfl, v1, v2, v3, v4⟩ := u32s_open hv'
  rcases v4 with v4 | ⟨vb, voff, rfl, v4⟩
  · cases v4
  have g0 := (v4.u32 (j := 0) (by simp)).1
  have hvS := hS vb v4.1
  simp only [List.getElem_cons_zero, Nat.add_zero] at g0
  have hsz : ([y] : List Nat).length = 1 := rfl
  clear hv hv' ey
  go_enter Tryz.func148, Tryz.ntmps148
  go_wp2_with fail
  refine Calls.mono HC.out ?_
  rintro e w1 ⟨rfl, hb1⟩
  rw [← hb1.cell (p := ⟨vb, voff, none⟩) hvS] at g0
  have hu1 : rSlice 1 rU32 w1 (LT w1.heap.size) [u] (limbsOf x) := (stays_rSlice stays_rU32) _ _ _ _ _ _ hu'.out (fun b hb => hb1.block b (hS b hb)) fun b hb => Nat.lt_of_lt_of_le (hS b hb) hb1.size
  have HD := hid (divideSmall_any _ _ _ y _ (fun _ h => h) hl hy0 hyW hu1)
  rw [hvx.out] at HD
  have hxm : x % y < 4294967296 := Nat.lt_of_lt_of_le (Nat.mod_lt _ hy0) (by omega)
  go_wp2_with fail
  refine Calls.mono HD.out ?_
  rintro e w2 ⟨q, rfl, hq, hb2⟩
  have hO : OwnL (w2.alloc (.cells #[.int .u32 ((x % y : Nat) : Int)] 196)) w2.heap.size 1 [x % y] := by
    refine ⟨rfl, fun z hz => by simp at hz; omega, fun j => .int .u32 (([x % y] : List Nat).getD j 0 : Nat), ?_, fun j => rfl⟩
    have := Own.new w2 196 1 (fun j => .int .u32 (([x % y] : List Nat).getD j 0 : Nat))
    have e : (Array.range 1).map (fun j => Value.int .u32 (([x % y] : List Nat).getD j 0 : Nat)) = #[.int .u32 ((x % y : Nat) : Int)] := by
      apply Array.ext'
      simp [List.range_succ]
    rw [e] at this
    exact this
  have hT := trim_any _ _ _ _ (hO.slice (by omega))
  have e1 : limbsVal [x % y] = x % y := by simp [limbsVal]
  rw [e1] at hT
  have HT := hid hT
  have hb3 : Below w2.heap.size w2 (w2.alloc (.cells #[.int .u32 ((x % y : Nat) : Int)] 196)) := (Below.refl _ _).alloc (Nat.le_refl _) _
  clear hT e1 hO hu1
  go_wp2_with fail
  refine Calls.mono HT.out ?_
  rintro e w3 ⟨r, rfl, rfl, hr⟩
  go_wp2
  go_ret2
  exact ⟨_, _, rfl, (stays_rSlice stays_rU32).below hq hb3 hb3.size, hr, hb1.step (hb2.step hb3)⟩
end Go.Proofs.YtinaeglgfomlaaaGreatDoor
end
section
/- insolvencyref1: divide, first two cases: walked. -/
namespace Go.Proofs.YtinaeglgfomlaaaGreatDoor
open Go.RowKit
theorem rdivide_lt (S : Nat → Prop) (u v : Value) (x y : Nat) (w : World) (hS : ∀ b, S b → b < w.heap.size) (hxy : x < y) (hu : rSlice 1 rU32 w S [u] (limbsOf x)) (hv : rSlice 1 rU32 w S [v] (limbsOf y)) :
    Calls Tryz.prog 183 #[u, v] w fun e w' => ∃ q r, e = .returned (.tuple #[q, r]) ∧ rSlice 1 rU32 w' (LT w'.heap.size) [q] (limbsOf (x / y)) ∧ rSlice 1 rU32 w' (LT w'.heap.size) [r] (limbsOf (x % y)) ∧ Below w.heap.size w w' := by
  have hc := order_any S u v x y w hS hu hv
  rw [natCmp_lt hxy] at hc
  have HC := hid hc
  clear hc
  go_enter Tryz.func183, Tryz.ntmps183
  go_wp2_with fail
  refine Calls.mono HC.out ?_
  rintro e w1 ⟨rfl, hb1⟩
  go_wp2
  go_ret2
  refine ⟨_, _, rfl, ?_, ?_, hb1⟩
  · rw [Nat.div_eq_of_lt hxy]; exact rSlice_nil32 _ _
  rw [Nat.mod_eq_of_lt hxy]
  exact (stays_rSlice stays_rU32) _ _ _ _ _ _ hu (fun b hb => hb1.block b (hS b hb)) fun b hb => Nat.lt_of_lt_of_le (hS b hb) hb1.size
set_option maxRecDepth 100000 in
theorem rdivide_small (S : Nat → Prop) (u v : Value) (x y : Nat) (w : World) (hS : ∀ b, S b → b < w.heap.size) (hl : (limbsOf x).length ≤ 1000000000000) (hxy : y ≤ x) (hy1 : (limbsOf y).length = 1) (hu : rSlice 1 rU32 w S [u] (limbsOf x)) (hv : rSlice 1 rU32 w S [v] (limbsOf y)) :
    Calls Tryz.prog 183 #[u, v] w fun e w' => ∃ q r, e = .returned (.tuple #[q, r]) ∧ rSlice 1 rU32 w' (LT w'.heap.size) [q] (limbsOf (x / y)) ∧ rSlice 1 rU32 w' (LT w'.heap.size) [r] (limbsOf (x % y)) ∧ Below w.heap.size w w' := by
  obtain ⟨ey, hy0, hyW⟩ := limbsOf_one hy1
  have hc := order_any S u v x y w hS hu hv
  have hcn : ¬ natCmp x y < 0 := by unfold natCmp; rw [if_neg (by omega)]; split <;> omega
  have HC := hid hc
  clear hc
  have hv' := hv
  have hu' := hid hu
  have hvx := hid (limbsVal_limbsOf x)
  rw [ey] at hv'
  obtain ⟨va, vc, rfl, v1, v2, v3, v4⟩ := u32s_open hv'
  rcases v4 with v4 | ⟨vb, voff, rfl, v4⟩
  · cases v4
  have g0 := (v4.u32 (j := 0) (by simp)).1
  have hvS := hS vb v4.1
  simp only [List.getElem_cons_zero, Nat.add_zero] at g0
  have hsz : ([y] : List Nat).length = 1 := rfl
  clear hv hv' ey
  go_enter Tryz.func183, Tryz.ntmps183
  go_wp2_with fail
  refine Calls.mono HC.out ?_
  rintro e w1 ⟨rfl, hb1⟩
  rw [← hb1.cell (p := ⟨vb, voff, none⟩) hvS] at g0
  have hu1 : rSlice 1 rU32 w1 (LT w1.heap.size) [u] (limbsOf x) := (stays_rSlice stays_rU32) _ _ _ _ _ _ hu'.out (fun b hb => hb1.block b (hS b hb)) fun b hb => Nat.lt_of_lt_of_le (hS b hb) hb1.size
  have HD := hid (short_any _ _ _ y _ (fun _ h => h) hl hy0 hyW hu1)
  rw [hvx.out] at HD
  have hxm : x % y < 4294967296 := Nat.lt_of_lt_of_le (Nat.mod_lt _ hy0) (by omega)
  go_wp2_with fail
  refine Calls.mono HD.out ?_
  rintro e w2 ⟨q, rfl, hq, hb2⟩
  have hO : OwnL (w2.alloc (.cells #[.int .u32 ((x % y : Nat) : Int)] 196)) w2.heap.size 1 [x % y] := by
    refine ⟨rfl, fun z hz => by simp at hz; omega, fun j => .int .u32 (([x % y] : List Nat).getD j 0 : Nat), ?_, fun j => rfl⟩
    have := Own.new w2 196 1 (fun j => .int .u32 (([x % y] : List Nat).getD j 0 : Nat))
    have e : (Array.range 1).map (fun j => Value.int .u32 (([x % y] : List Nat).getD j 0 : Nat)) = #[.int .u32 ((x % y : Nat) : Int)] := by
      apply Array.ext'
      simp [List.range_succ]
    rw [e] at this
    exact this
  have hT := strip_any _ _ _ _ (hO.slice (by omega))
  have e1 : limbsVal [x % y] = x % y := by simp [limbsVal]
  rw [e1] at hT
  have HT := hid hT
  have hb3 : Below w2.heap.size w2 (w2.alloc (.cells #[.int .u32 ((x % y : Nat) : Int)] 196)) := (Below.refl _ _).alloc (Nat.le_refl _) _
  clear hT e1 hO hu1
  go_wp2_with fail
  refine Calls.mono HT.out ?_
  rintro e w3 ⟨r, rfl, rfl, hr⟩
  go_wp2
  go_ret2
  exact ⟨_, _, rfl, (stays_rSlice stays_rU32).below hq hb3 hb3.size, hr, hb1.step (hb2.step hb3)⟩
end Go.Proofs.YtinaeglgfomlaaaGreatDoor
end
