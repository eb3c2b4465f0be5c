/- insolvencyref1: shifted: walked. -/
import Derived.Test.YtgmedcncbpdimaaDoorRef6M
import Derived.Test.YtgmedcncbpdimaaDoorNat12M
set_option linter.unusedVariables false
set_option linter.unusedSimpArgs false
section
/- insolvencyref1: shifted: walked. -/
namespace Go.Proofs.YtgmedcncbpdimaaDoor
open Go.RowKit

theorem shl_hi {x c lo hi s : Nat} (hx : x < 4294967296) (hs : s < 32) (hl : c + lo < 4294967296) (hh : hi < 2 ^ s) (h : 4294967296 * hi + lo = x * 2 ^ s) : IntKind.u64.wrap ((x : Int) * 2 ^ s) / 4294967296 % 4294967296 = (hi : Int) := by
  have hp := pow2_lt hs
  have ht : x * 2 ^ s ≤ 4294967295 * 2147483648 := Nat.mul_le_mul (by omega) hp
  have e1 : (x : Int) * 2 ^ s = ((x * 2 ^ s : Nat) : Int) := by rw [Int.natCast_mul, Int.natCast_pow]; rfl
  have e2 : IntKind.u64.wrap ((x : Int) * 2 ^ s) = ((x * 2 ^ s : Nat) : Int) := by rw [e1]; exact IntWalk.u64_in _ (by omega)
  rw [e2, ← h]
  omega

set_option maxRecDepth 100000 in
set_option maxHeartbeats 1000000 in
theorem shifted_any (S : Nat → Prop) (u : Value) (xs : List Nat) (s : Nat) (w : World) (hS : ∀ b, S b → b < w.heap.size) (hn : xs.length ≤ 999999999999) (hs : s < 32) (hu : rSlice 1 rU32 w S [u] xs) :
    Calls Tryd.prog 114 #[u, .int .u64 s] w fun e w' => ∃ g o, e = .returned (.slice (some ⟨g, 0, none⟩) (xs.length + 1) (xs.length + 1)) ∧ w.heap.size ≤ g ∧ OwnL w' g (xs.length + 1) o ∧ limbsVal o = limbsVal xs * 2 ^ s ∧ Below w.heap.size w w' := by
  have hxlt := hid (u32s_lt hu)
  obtain ⟨xa, xc, rfl, x1, x2, x3, x4⟩ := u32s_open hu
  have hn' := len_le x1 x2
  obtain ⟨n, hnn⟩ : ∃ n, n = xs.length + 1 := ⟨_, rfl⟩
  rw [← hnn]
  have hm1 : (xs.length : Int) + 1 = (n : Int) := by omega
  have hmk := fun (w : World) => make_one (P := Tryd.prog) Tryd.underlying73 Tryd.infoU32 rfl w n (by omega) (by omega)
  have hxn : xs.length < n := by omega
  have HNN := hid hnn
  clear hnn
  go_enter Tryd.func114, Tryd.ntmps114
  go_wp2
  clear hmk
  go_loopw [6, 7] (fun i _ wr => ∃ (k : Nat) (o : List Nat), k ≤ xs.length ∧ i = .int .i64 k ∧ Below w.heap.size w wr ∧ OwnL wr w.heap.size n o ∧
      Hid (limbsVal o = limbsVal (xs.take k) * 2 ^ s) ∧ Hid (∀ j, k < j → o.getD j 0 = 0) ∧ Hid (o.getD k 0 < 2 ^ s)) (fun i _ _ => xs.length - (intOf i).toNat)
  case atStart =>
    refine ⟨0, _, Nat.zero_le _, rfl, (Below.refl _ _).alloc (Nat.le_refl _) _, OwnL.new _ _, ?_, fun j _ => ?_, ?_⟩
    · show limbsVal _ = limbsVal (xs.take 0) * 2 ^ s; rw [limbsVal_zeros]; simp [limbsVal]
    · simp [List.getD, List.getElem?_replicate]; split <;> rfl
    · show (List.replicate n 0).getD 0 0 < 2 ^ s
      have : (List.replicate n 0).getD 0 0 = 0 := by simp [List.getD, List.getElem?_replicate]; split <;> rfl
      rw [this]; exact Nat.pow_pos (by decide)
  case round =>
    obtain ⟨k, o, hk, rfl, hbw, hown, HE, HZ, HC⟩ := hrel
    by_cases hlt : k < xs.length
    · rcases x4 with rfl | ⟨b1, off1, rfl, x4⟩
      · simp at hlt
      obtain ⟨g0, g1⟩ := x4.u32 hlt
      rw [← hbw.cell (p := ⟨b1, off1 + k, none⟩) (hS _ x4.1)] at g0
      have hko : k < o.length := by rw [hown.1]; omega
      have c1 := hown.cell hko
      have c2 := hown.frozen k
      have ek : o.getD k 0 = o[k] := by simp [List.getD, hko]
      have hck := HC.out
      rw [ek] at hck
      obtain ⟨lo, hi, b1', b2', b3', b4', hdm⟩ := shl_bits (x := xs[k]) (c := o[k]) g1 hs hck
      have HT := hid (limbsVal_take_succ xs k hlt)
      have HS := hid (fun d => limbsVal_set o k d hko)
      have HDM := hid hdm
      have B1 := hid b1'
      have B2 := hid b2'
      have B3 := hid b3'
      have B4 := hid b4'
      have CK := hid hck
      have hb2 := shl_hi g1 hs b3' b4' hdm
      have B5 := hid hb2
      clear hb2 b1' b2' b3' b4' hck ek hdm
      by_cases hk1 : k + 1 < n
      · have hko1 : k + 1 < o.length := by rw [hown.1]; omega
        have e0 : o[k + 1] = 0 := by have := HZ.out (k + 1) (by omega); simpa [List.getD, hko1] using this
        have c3 := hown.cell hko1
        rw [e0] at c3
        have E0 := hid e0
        clear e0
        have c4 := hown.frozen (k + 1)
        go_wp2
        go_roundw
        case rel =>
          rw [B1.out, B5.out]
          have h2 : x2 = x2 := rfl
          refine ⟨k + 1, (o.set k (o[k] + lo)).set (k + 1) (hi), by omega, by go_num, (hbw.setCell (Nat.le_refl _) _).setCell (Nat.le_refl _) _,
            (hown.set hko B3.out).set (by simpa using hko1) (by have := B4.out; have := pow2_lt hs; omega), ?_, fun j hj => ?_, ?_⟩
          · show limbsVal _ = _
            have h1 := limbsVal_set (o.set k (o[k] + lo)) (k + 1) (hi) (by simpa using hko1)
            have h3 := HS.out (o[k] + lo)
            have h4 : (o.set k (o[k] + lo))[k + 1]'(by simpa using hko1) = 0 := by rw [List.getElem_set_ne (by omega)]; exact E0.out
            rw [h4] at h1
            rw [HT.out, Nat.add_mul, ← HE.out, Nat.mul_assoc, ← HDM.out, Nat.mul_add, ← Nat.mul_assoc, ← Nat.pow_succ, Nat.succ_eq_add_one]
            rw [Nat.mul_add] at h3
            omega
          · have := HZ.out j (by omega)
            simpa [List.getD, List.getElem?_set, show ¬ k = j by omega, show ¬ k + 1 = j by omega] using this
          · show ((o.set k _).set (k + 1) _).getD (k + 1) 0 < 2 ^ s
            simp [List.getD, hko1]
            exact B4.out
        case measure => simp [intOf]; omega
      · exact absurd (by have := HNN.out; omega) hk1
    · have hk' : k = xs.length := by omega
      have hval : limbsVal o = limbsVal xs * 2 ^ s := by
        rw [HE.out, List.take_of_length_le (by omega)]
      have HVAL := hid hval
      clear hval
      go_wp2
      go_ret
      exact ⟨_, _, rfl, Nat.le_refl _, hown, HVAL.out, hbw⟩

end Go.Proofs.YtgmedcncbpdimaaDoor
end
section
/- natural: unshift: walked. -/
namespace Go.Proofs.YtgmedcncbpdimaaDoor
open Go.RowKit

theorem or32_add' (x r : Nat) (hx : x < 4294967296) (hr : r < 4294967296) : bits .or .u64 (x : Int) ((r : Int) * 4294967296) = ((r * 4294967296 + x : Nat) : Int) := by
  have e : (r : Int) * 4294967296 = ((r * 2 ^ 32 : Nat) : Int) := by rw [Int.natCast_mul]; rfl
  rw [e, u64_or_nat _ _ (by omega) (by omega), or_add x r 32 (by omega)]

theorem unshift_digit {xs : List Nat} (hxs : ∀ x ∈ xs, x < 4294967296) (i s : Nat) (hi : i < xs.length) (hs : s < 32) : (xs.getD (i + 1) 0 * 4294967296 + xs[i]) / 2 ^ s % 4294967296 = limbsVal xs / 2 ^ s / 4294967296 ^ i % 4294967296 := by
  have hx : ∃ r l, limbsVal xs = l + 4294967296 ^ i * (xs[i] + 4294967296 * xs.getD (i + 1) 0 + 18446744073709551616 * r) ∧ l = limbsVal (xs.take i) := by
    refine ⟨limbsVal (xs.drop (i + 2)), limbsVal (xs.take i), ?_, rfl⟩
    have e1 : limbsVal xs = limbsVal (xs.take i) + 4294967296 ^ i * limbsVal (xs.drop i) := by
      conv => lhs; rw [← List.take_append_drop i xs]
      rw [limbsVal_append, List.length_take, Nat.min_eq_left (by omega)]
    have e2 : limbsVal (xs.drop i) = xs[i] + 4294967296 * limbsVal (xs.drop (i + 1)) := by rw [List.drop_eq_getElem_cons hi]; rfl
    have e3 : limbsVal (xs.drop (i + 1)) = xs.getD (i + 1) 0 + 4294967296 * limbsVal (xs.drop (i + 2)) := by
      by_cases h : i + 1 < xs.length
      · rw [List.drop_eq_getElem_cons h]; simp [List.getD, h, limbsVal]
      · rw [List.drop_of_length_le (by omega), List.drop_of_length_le (by omega)]; simp [List.getD, List.getElem?_eq_none (by omega : xs.length ≤ i + 1), limbsVal]
    rw [e1, e2, e3, Nat.mul_add 4294967296 (xs.getD (i + 1) 0)]
    congr 2
    omega
  obtain ⟨r, l, hR, hl⟩ := hx
  have hl' : l < 4294967296 ^ i := by
    have := limbsVal_lt (xs := xs.take i) (fun x hx => hxs x (List.mem_of_mem_take hx))
    rw [List.length_take, Nat.min_eq_left (by omega)] at this
    rw [hl]; exact this
  rw [Nat.div_div_eq_div_mul, Nat.mul_comm (2 ^ s), ← Nat.div_div_eq_div_mul, hR, Nat.add_mul_div_left _ _ (ww_pos i), Nat.div_eq_of_lt hl', Nat.zero_add]
  have e1 : (18446744073709551616 : Nat) * r = 2 ^ s * (4294967296 * (2 ^ (32 - s) * r)) := by
    have : (18446744073709551616 : Nat) = 2 ^ s * (4294967296 * 2 ^ (32 - s)) := by
      have e2 : (4294967296 : Nat) = 2 ^ 32 := by decide
      rw [e2, ← Nat.pow_add, ← Nat.pow_add, show s + (32 + (32 - s)) = 64 by omega]
    conv => lhs; rw [this]
    rw [Nat.mul_assoc, Nat.mul_assoc]
  rw [e1, Nat.add_mul_div_left _ _ (Nat.pow_pos (by decide)), Nat.add_mul_mod_self_left, Nat.mul_comm (xs.getD (i + 1) 0), Nat.add_comm]

set_option maxRecDepth 100000 in
set_option maxHeartbeats 1000000 in
theorem unshift_any (S : Nat → Prop) (u : Value) (xs : List Nat) (s : Nat) (w : World) (hS : ∀ b, S b → b < w.heap.size) (hl : xs.length ≤ 1000000000000) (hs : s < 32) (hu : rSlice 1 rU32 w S [u] xs) :
    Calls Tryd.prog 113 #[u, .int .u64 s] w fun e w' => ∃ r, e = .returned r ∧ rSlice 1 rU32 w' (LT w'.heap.size) [r] (limbsOf (limbsVal xs / 2 ^ s)) ∧ Below w.heap.size w w' := by
  have hxlt := hid (u32s_lt hu)
  obtain ⟨xa, xc, rfl, x1, x2, x3, x4⟩ := u32s_open hu
  have hn' := len_le x1 x2
  have hmk := fun (w : World) => make_one (P := Tryd.prog) Tryd.underlying83 Tryd.infoU32 rfl w xs.length (by omega) (by omega)
  go_enter Tryd.func113, Tryd.ntmps113
  go_wp2
  clear hmk
  go_loopw [6, 7, 13] (fun _ _ i wr => ∃ (k : Nat) (o : List Nat), k ≤ xs.length ∧ i = .int .i64 k ∧ Below w.heap.size w wr ∧ OwnL wr w.heap.size xs.length o ∧
      Hid (∀ j, j < k → o.getD j 0 = limbsVal xs / 2 ^ s / 4294967296 ^ j % 4294967296)) (fun _ _ i _ => xs.length - (intOf i).toNat)
  case atStart => exact ⟨0, _, Nat.zero_le _, rfl, (Below.refl _ _).alloc (Nat.le_refl _) _, OwnL.new _ _, fun j hj => by omega⟩
  case round =>
    obtain ⟨k, o, hk, rfl, hbw, hown, HE⟩ := hrel
    by_cases hlt : k < xs.length
    · rcases x4 with rfl | ⟨b1, off1, rfl, x4⟩
      · simp at hlt
      obtain ⟨g0, g1⟩ := x4.u32 hlt
      rw [← hbw.cell (p := ⟨b1, off1 + k, none⟩) (hS _ x4.1)] at g0
      have hko : k < o.length := by rw [hown.1]; omega
      have c1 := hown.cell hko
      have c2 := hown.frozen k
      have HD := hid (unshift_digit hxlt.out k s hlt hs)
      obtain ⟨x, hx⟩ : ∃ x, x = xs[k] := ⟨_, rfl⟩
      rw [← hx] at g0 g1 HD
      clear hx
      by_cases hk1 : k + 1 < xs.length
      · obtain ⟨f0, f1⟩ := x4.u32 hk1
        rw [← hbw.cell (p := ⟨b1, off1 + (k + 1), none⟩) (hS _ x4.1)] at f0
        have ey : xs.getD (k + 1) 0 = xs[k + 1] := by simp [List.getD, hk1]
        rw [ey] at HD
        obtain ⟨y, hy⟩ : ∃ y, y = xs[k + 1] := ⟨_, rfl⟩
        rw [← hy] at f0 f1 HD
        clear hy ey
        have o1 := or32_add' x y g1 f1
        obtain ⟨d, hd⟩ : ∃ d : Nat, d = (y * 4294967296 + x) / 2 ^ s % 4294967296 := ⟨_, rfl⟩
        have hd1 : d < 4294967296 := by rw [hd]; exact Nat.mod_lt _ (by decide)
        have HV := hid (show ((y : Int) * 4294967296 + (x : Int)) / 2 ^ s % 4294967296 = (d : Int) by
          rw [hd, Int.natCast_emod, Int.natCast_ediv, Int.natCast_pow]; try rw [Int.natCast_add, Int.natCast_mul]
          rfl)
        skip
        rw [HD.out] at hd
        have HD2 := hid hd
        clear hd HD
        go_wp2
        go_roundw
        case rel =>
          rw [HV.out]
          refine ⟨k + 1, o.set k d, by omega, by go_num, hbw.setCell (Nat.le_refl _) _, hown.set hko hd1, fun j hj => ?_⟩
          by_cases hjk : j = k
          · subst hjk; rw [← HD2.out]; simp [List.getD, hko]
          · rw [← HE.out j (by omega)]; simp [List.getD, List.getElem?_set, show ¬ k = j by omega]
        case measure => simp [intOf]; omega
      · have ey : xs.getD (k + 1) 0 = 0 := by simp [List.getD, List.getElem?_eq_none (by omega : xs.length ≤ k + 1)]
        rw [ey] at HD
        clear ey
        obtain ⟨d, hd⟩ : ∃ d : Nat, d = x / 2 ^ s % 4294967296 := ⟨_, rfl⟩
        have hd1 : d < 4294967296 := by rw [hd]; exact Nat.mod_lt _ (by decide)
        have HV := hid (show (x : Int) / 2 ^ s % 4294967296 = (d : Int) by
          rw [hd, Int.natCast_emod, Int.natCast_ediv, Int.natCast_pow]; try rw [Int.natCast_add, Int.natCast_mul]
          rfl)
        rw [show x = 0 * 4294967296 + x by omega] at hd
        rw [HD.out] at hd
        have HD2 := hid hd
        clear hd HD
        go_wp2
        go_roundw
        case rel =>
          rw [HV.out]
          refine ⟨k + 1, o.set k d, by omega, by go_num, hbw.setCell (Nat.le_refl _) _, hown.set hko hd1, fun j hj => ?_⟩
          by_cases hjk : j = k
          · subst hjk; rw [← HD2.out]; simp [List.getD, hko]
          · rw [← HE.out j (by omega)]; simp [List.getD, List.getElem?_set, show ¬ k = j by omega]
        case measure => simp [intOf]; omega
    · have hoe : o = limbsFix xs.length (limbsVal xs / 2 ^ s) := by
        apply List.ext_getElem?
        intro j
        by_cases hj : j < xs.length
        · have h1 := HE.out j (by omega)
          rw [limbsFix_get _ _ _ hj, ← h1]
          have : j < o.length := by rw [hown.1]; exact hj
          simp [List.getD, this]
        · rw [List.getElem?_eq_none (by rw [hown.1]; omega), List.getElem?_eq_none (by rw [limbsFix_len]; omega)]
      have hval : limbsVal o = limbsVal xs / 2 ^ s := by
        rw [hoe, limbsFix_val]
        apply Nat.mod_eq_of_lt
        exact Nat.lt_of_le_of_lt (Nat.div_le_self _ _) (limbsVal_lt hxlt.out)
      have hT := trim_any _ _ _ _ (hown.slice (by omega))
      rw [hval] at hT
      have HT := hid hT
      clear hval hoe hT
      go_wp2_with fail
      refine Calls.mono HT.out ?_
      rintro e' w3 ⟨r, rfl, rfl, hr⟩
      go_wp2
      go_ret
      exact ⟨_, rfl, hr, hbw⟩

end Go.Proofs.YtgmedcncbpdimaaDoor
end
