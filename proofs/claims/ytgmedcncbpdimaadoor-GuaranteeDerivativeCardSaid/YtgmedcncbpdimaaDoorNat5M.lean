/- natural: sign, compare, FromUint; bits.Add32, bits.Sub32: walked. -/
import Derived.Test.YtgmedcncbpdimaaDoorNat4M
set_option linter.unusedVariables false
set_option linter.unusedSimpArgs false
section
/- natural: sign, compare, FromUint; bits.Add32, bits.Sub32: walked. -/
namespace Go.Proofs.YtgmedcncbpdimaaDoor
open Go.RowKit

def signZ (n : Int) : Int := if n < 0 then -1 else if 0 < n then 1 else 0
def natCmp (x y : Nat) : Int := if x < y then -1 else if y < x then 1 else 0

theorem ret2i {k k' : IntKind} {a b c d : Int} (h : a = b) (h' : c = d) : Ending.returned (.tuple #[.int k a, .int k' c]) = .returned (.tuple #[.int k b, .int k' d]) := by rw [h, h']

theorem sign_any (n : Int) (w : World) : Calls Tryd.prog 75 #[.int .i64 n] w fun e w' => e = .returned (.int .i64 (signZ n)) ∧ w = w' := by
  by_cases h1 : n < 0
  · have hs : Hid (signZ n = -1) := by unfold signZ; rw [if_pos h1]; rfl
    go_enter Tryd.func75, Tryd.ntmps75
    go_wp2
    go_ret
    exact ⟨ret_int hs.out.symm, rfl⟩
  · by_cases h2 : 0 < n
    · have hs : Hid (signZ n = 1) := by unfold signZ; rw [if_neg h1, if_pos h2]; rfl
      go_enter Tryd.func75, Tryd.ntmps75
      go_wp2
      go_ret
      exact ⟨ret_int hs.out.symm, rfl⟩
    · have hs : Hid (signZ n = 0) := by unfold signZ; rw [if_neg h1, if_neg h2]; rfl
      go_enter Tryd.func75, Tryd.ntmps75
      go_wp2
      go_ret
      exact ⟨ret_int hs.out.symm, rfl⟩

/-! ### compare -/

theorem limbs_lt_of_top {xs ys : List Nat} (hx : ∀ x ∈ xs, x < 4294967296) (hl : xs.length = ys.length) (i : Nat) (h : i < xs.length) (h' : i < ys.length) (hd : xs.drop (i + 1) = ys.drop (i + 1)) (hlt : xs[i] < ys[i]) : limbsVal xs < limbsVal ys := by
  have e1 : limbsVal xs = limbsVal (xs.take i) + 4294967296 ^ i * (xs[i] + 4294967296 * limbsVal (xs.drop (i + 1))) := by
    conv => lhs; rw [← List.take_append_drop i xs, List.drop_eq_getElem_cons h]
    rw [limbsVal_append, List.length_take, Nat.min_eq_left (by omega)]; rfl
  have e2 : limbsVal ys = limbsVal (ys.take i) + 4294967296 ^ i * (ys[i] + 4294967296 * limbsVal (ys.drop (i + 1))) := by
    conv => lhs; rw [← List.take_append_drop i ys, List.drop_eq_getElem_cons h']
    rw [limbsVal_append, List.length_take, Nat.min_eq_left (by omega)]; rfl
  have h1 := limbsVal_lt (xs := xs.take i) (fun x hx' => hx x (List.mem_of_mem_take hx'))
  rw [List.length_take, Nat.min_eq_left (by omega)] at h1
  rw [e1, e2, hd]
  generalize limbsVal (ys.drop (i + 1)) = D
  have h2 : 4294967296 ^ i * (xs[i] + 4294967296 * D) + 4294967296 ^ i ≤ 4294967296 ^ i * (ys[i] + 4294967296 * D) := by
    have := Nat.mul_le_mul_left (4294967296 ^ i) (show xs[i] + 4294967296 * D + 1 ≤ ys[i] + 4294967296 * D by omega)
    rwa [Nat.mul_add, Nat.mul_one] at this
  omega

theorem limbs_len_lt {x y : Nat} (h : (limbsOf x).length < (limbsOf y).length) : x < y := by
  rcases Nat.lt_or_ge x y with h' | h'
  · exact h'
  · exfalso
    have h1 := limbsVal_lt (limbsOf_lt x)
    rw [limbsVal_limbsOf] at h1
    have := limbsOf_len_le (Nat.lt_of_le_of_lt h' h1)
    omega

theorem natCmp_lt {x y : Nat} (h : x < y) : natCmp x y = -1 := by unfold natCmp; rw [if_pos h]
theorem natCmp_gt {x y : Nat} (h : y < x) : natCmp x y = 1 := by unfold natCmp; rw [if_neg (by omega), if_pos h]
theorem natCmp_eq (x : Nat) : natCmp x x = 0 := by unfold natCmp; simp

set_option maxRecDepth 100000 in
set_option maxHeartbeats 1000000 in
theorem compare_any (S : Nat → Prop) (u v : Value) (x y : Nat) (w : World) (hS : ∀ b, S b → b < w.heap.size) (hu : rSlice 1 rU32 w S [u] (limbsOf x)) (hv : rSlice 1 rU32 w S [v] (limbsOf y)) :
    Calls Tryd.prog 94 #[u, v] w fun e w' => e = .returned (.int .i64 (natCmp x y)) ∧ Below w.heap.size w w' := by
  obtain ⟨a, cap, rfl, h1, h2, h3, h4⟩ := u32s_open hu
  obtain ⟨a', cap', rfl, h1', h2', h3', h4'⟩ := u32s_open hv
  have hn := len_le h1 h2
  have hn' := len_le h1' h2'
  rcases Nat.lt_trichotomy (limbsOf x).length (limbsOf y).length with hl | hl | hl
  · have hR := hid (natCmp_lt (limbs_len_lt hl))
    have hl' : ((limbsOf x).length != (limbsOf y).length) = true := by simp; omega
    have hl2 : ¬ (((limbsOf x).length : Int) = ((limbsOf y).length : Int)) := by omega
    have HS := hid (sign_any (((limbsOf x).length : Int) - (limbsOf y).length))
    have hsg : signZ (((limbsOf x).length : Int) - (limbsOf y).length) = -1 := by unfold signZ; rw [if_pos (by omega)]
    rw [hsg] at HS
    clear hsg
    go_enter Tryd.func94, Tryd.ntmps94
    go_wp2_with fail
    refine Calls.mono (HS.out _) ?_
    rintro e w1 ⟨rfl, rfl⟩
    go_wp2
    go_ret
    exact ⟨ret_int hR.out.symm, Below.refl _ _⟩
  · have HL := hid hl
    rw [← hl]
    clear hl
    go_enter Tryd.func94, Tryd.ntmps94
    go_wp2
    go_loopw [5] (fun i wr => ∃ k : Nat, k ≤ (limbsOf x).length ∧ i = .int .i64 ((k : Int) - 1) ∧ Below w.heap.size w wr ∧ Hid ((limbsOf x).drop k = (limbsOf y).drop k)) (fun i _ => (intOf i + 1).toNat)
    case atStart => exact ⟨_, Nat.le_refl _, rfl, Below.refl _ _, by show (limbsOf x).drop (limbsOf x).length = (limbsOf y).drop (limbsOf x).length; rw [List.drop_length, HL.out, List.drop_length]⟩
    case round =>
      obtain ⟨k, hk, rfl, hbel, HE⟩ := hrel
      cases k with
      | zero =>
        have hxy : x = y := by
          have := HE.out
          rw [List.drop_zero, List.drop_zero] at this
          have := congrArg limbsVal this
          rwa [limbsVal_limbsOf, limbsVal_limbsOf] at this
        have hR : Hid (natCmp x y = 0) := by subst hxy; exact natCmp_eq _
        clear hxy
        go_wp2
        go_ret
        exact ⟨ret_int hR.out.symm, hbel⟩
      | succ k =>
        rw [show (((k + 1 : Nat) : Int) - 1) = (k : Int) by omega]
        have hlt : k < (limbsOf x).length := by omega
        have hlt' : k < (limbsOf y).length := by have := HL.out; omega
        rcases h4 with h4 | ⟨b, off, rfl, h4⟩
        · rw [h4] at hlt; simp at hlt
        rcases h4' with h4' | ⟨b', off', rfl, h4'⟩
        · rw [h4'] at hlt'; simp at hlt'
        obtain ⟨g0, g1⟩ := h4.u32 hlt
        rw [← hbel.cell (p := ⟨b, off + k, none⟩) (hS _ h4.1)] at g0
        obtain ⟨f0, f1⟩ := h4'.u32 hlt'
        rw [← hbel.cell (p := ⟨b', off' + k, none⟩) (hS _ h4'.1)] at f0
        have HX := hid (limbsOf_lt x)
        have HY := hid (limbsOf_lt y)
        have HVX := hid (limbsVal_limbsOf x)
        have HVY := hid (limbsVal_limbsOf y)
        rcases Nat.lt_trichotomy (limbsOf x)[k] (limbsOf y)[k] with hc | hc | hc
        · have hR : Hid (natCmp x y = -1) := natCmp_lt (by rw [← HVX.out, ← HVY.out]; exact limbs_lt_of_top HX.out HL.out k hlt hlt' HE.out hc)
          have q1 : (((limbsOf x)[k] : Int) != ((limbsOf y)[k] : Int)) = true := by rw [bne_iff_ne]; omega
          have q1' : ((limbsOf x)[k] != (limbsOf y)[k]) = true := by rw [bne_iff_ne]; omega
          go_wp2
          go_quiet (fail)
          go_wp2
          go_quiet (fail)
          go_wp2
          go_ret
          exact ⟨ret_int hR.out.symm, (hbel.drewN _).drewN _⟩
        · have q1 : (((limbsOf x)[k] : Int) != ((limbsOf y)[k] : Int)) = false := by simp [hc]
          have q1' : ((limbsOf x)[k] != (limbsOf y)[k]) = false := by simp [hc]
          have HC := hid hc
          clear hc
          go_wp2
          go_quiet (fail)
          go_wp2
          go_roundw
          case rel => exact ⟨k, by omega, rfl, hbel.drewN _, by show (limbsOf x).drop k = (limbsOf y).drop k; rw [List.drop_eq_getElem_cons hlt, List.drop_eq_getElem_cons hlt', HC.out, HE.out]⟩
          case measure => simp [intOf]
        · have hR : Hid (natCmp x y = 1) := natCmp_gt (by rw [← HVX.out, ← HVY.out]; exact limbs_lt_of_top HY.out HL.out.symm k hlt' hlt HE.out.symm hc)
          have q1 : (((limbsOf x)[k] : Int) != ((limbsOf y)[k] : Int)) = true := by rw [bne_iff_ne]; omega
          have q1' : ((limbsOf x)[k] != (limbsOf y)[k]) = true := by rw [bne_iff_ne]; omega
          have q2 : ¬ (limbsOf x)[k] < (limbsOf y)[k] := by omega
          go_wp2
          go_quiet (fail)
          go_wp2
          go_quiet (fail)
          go_wp2
          go_ret
          exact ⟨ret_int hR.out.symm, (hbel.drewN _).drewN _⟩
  · have hR := hid (natCmp_gt (limbs_len_lt hl))
    have hl' : ((limbsOf x).length != (limbsOf y).length) = true := by simp; omega
    have hl2 : ¬ (((limbsOf x).length : Int) = ((limbsOf y).length : Int)) := by omega
    have HS := hid (sign_any (((limbsOf x).length : Int) - (limbsOf y).length))
    have hsg : signZ (((limbsOf x).length : Int) - (limbsOf y).length) = 1 := by unfold signZ; rw [if_neg (by omega), if_pos (by omega)]
    rw [hsg] at HS
    clear hsg
    go_enter Tryd.func94, Tryd.ntmps94
    go_wp2_with fail
    refine Calls.mono (HS.out _) ?_
    rintro e w1 ⟨rfl, rfl⟩
    go_wp2
    go_ret
    exact ⟨ret_int hR.out.symm, Below.refl _ _⟩

end Go.Proofs.YtgmedcncbpdimaaDoor
end
section
/- bits.Add32, bits.Sub32: walked. -/
namespace Go.Proofs.YtgmedcncbpdimaaDoor
open Go.RowKit

theorem add32_any (x y c : Int) (w : World) (hx0 : 0 ≤ x) (hx : x < 4294967296) (hy0 : 0 ≤ y) (hy : y < 4294967296) (hc0 : 0 ≤ c) (hc : c < 4294967296) :
    Calls Tryd.prog 93 #[.int .u32 x, .int .u32 y, .int .u32 c] w fun e w' => e = .returned (.tuple #[.int .u32 ((x + y + c) % 4294967296), .int .u32 ((x + y + c) / 4294967296)]) ∧ w = w' := by
  go_enter Tryd.func93, Tryd.ntmps93
  go_wp2
  go_ret2
  refine ⟨?_, rfl⟩
  simp

def borrowZ (x y c : Int) : Int := if x < y + c then 1 else 0
theorem borrowZ_bd (x y c : Int) : 0 ≤ borrowZ x y c ∧ borrowZ x y c ≤ 1 := by unfold borrowZ; split <;> omega

theorem top_or (a b : Nat) : (a ||| b) / 2147483648 = a / 2147483648 ||| b / 2147483648 := by
  have := Nat.shiftRight_or_distrib (a := a) (b := b) (i := 31)
  simpa [Nat.shiftRight_eq_div_pow] using this
theorem top_and (a b : Nat) : (a &&& b) / 2147483648 = a / 2147483648 &&& b / 2147483648 := by
  have := Nat.shiftRight_and_distrib (a := a) (b := b) (i := 31)
  simpa [Nat.shiftRight_eq_div_pow] using this
theorem top_xor (a b : Nat) : (a ^^^ b) / 2147483648 = a / 2147483648 ^^^ b / 2147483648 := by
  have := Nat.shiftRight_xor_distrib (a := a) (b := b) (i := 31)
  simpa [Nat.shiftRight_eq_div_pow] using this

theorem borrow_nat (X Y D c : Nat) (hX : X < 4294967296) (hY : Y < 4294967296) (hD : D < 4294967296) (hc : c ≤ 1) (hd : (D : Int) = ((X : Int) - Y - c) % 4294967296) :
    (((4294967295 ^^^ X) &&& Y ||| (4294967295 ^^^ (X ^^^ Y)) &&& D) / 2147483648 : Nat) = if (X : Int) < Y + c then 1 else 0 := by
  simp only [top_or, top_and, top_xor]
  have e : 4294967295 / 2147483648 = 1 := by decide
  rw [e]
  have hx : X / 2147483648 = 0 ∨ X / 2147483648 = 1 := by omega
  have hy : Y / 2147483648 = 0 ∨ Y / 2147483648 = 1 := by omega
  have hdd : D / 2147483648 = 0 ∨ D / 2147483648 = 1 := by omega
  rcases hx with hx | hx <;> rcases hy with hy | hy <;> rcases hdd with hdd | hdd <;> rw [hx, hy, hdd] <;> simp <;> omega

theorem xor_lt {a b : Nat} (ha : a < 4294967296) (hb : b < 4294967296) : a ^^^ b < 4294967296 := Nat.xor_lt_two_pow (n := 32) ha hb
theorem and_lt {a b : Nat} (hb : b < 4294967296) : a &&& b < 4294967296 := Nat.and_lt_two_pow (n := 32) a hb

theorem borrow_bits (x y c : Int) (hx0 : 0 ≤ x) (hx : x < 4294967296) (hy0 : 0 ≤ y) (hy : y < 4294967296) (hc0 : 0 ≤ c) (hc : c ≤ 1) :
    bits BinOp.or IntKind.u32 (bits BinOp.and IntKind.u32 (bits BinOp.xor IntKind.u32 IntKind.u32.max x) y)
      (bits BinOp.and IntKind.u32 (bits BinOp.xor IntKind.u32 IntKind.u32.max (bits BinOp.xor IntKind.u32 x y)) ((x - y - c) % 4294967296)) / 2147483648 = borrowZ x y c := by
  obtain ⟨X, rfl⟩ := Int.eq_ofNat_of_zero_le hx0
  obtain ⟨Y, rfl⟩ := Int.eq_ofNat_of_zero_le hy0
  obtain ⟨C, rfl⟩ := Int.eq_ofNat_of_zero_le hc0
  obtain ⟨D, hD⟩ := Int.eq_ofNat_of_zero_le (Int.emod_nonneg ((X : Int) - Y - C) (by omega : (4294967296 : Int) ≠ 0))
  have hDl : D < 4294967296 := by omega
  have hX : X < 4294967296 := by omega
  have hY : Y < 4294967296 := by omega
  have em : IntKind.u32.max = ((4294967295 : Nat) : Int) := rfl
  have hM : 4294967295 < 4294967296 := by omega
  rw [hD, em, u32_xor_nat _ _ hM hX, u32_and_nat _ _ (xor_lt hM hX) hY, u32_xor_nat _ _ hX hY, u32_xor_nat _ _ hM (xor_lt hX hY), u32_and_nat _ _ (xor_lt hM (xor_lt hX hY)) hDl,
    u32_or_nat _ _ (and_lt hY) (and_lt hDl)]
  have := borrow_nat X Y D C hX hY hDl (by omega) hD.symm
  unfold borrowZ
  rw [show ((2147483648 : Int)) = ((2147483648 : Nat) : Int) from rfl, ← Int.natCast_ediv, this]
  split <;> rfl

theorem sub32_any (x y c : Int) (w : World) (hx0 : 0 ≤ x) (hx : x < 4294967296) (hy0 : 0 ≤ y) (hy : y < 4294967296) (hc0 : 0 ≤ c) (hc : c ≤ 1) :
    Calls Tryd.prog 103 #[.int .u32 x, .int .u32 y, .int .u32 c] w fun e w' => e = .returned (.tuple #[.int .u32 ((x - y - c) % 4294967296), .int .u32 (borrowZ x y c)]) ∧ w = w' := by
  have HB := hid (borrow_bits x y c hx0 hx hy0 hy hc0 hc)
  go_enter Tryd.func103, Tryd.ntmps103
  go_wp2
  go_ret2
  refine ⟨?_, rfl⟩
  rw [← HB.out]
  rfl

end Go.Proofs.YtgmedcncbpdimaaDoor
end
section
/- natural: FromUint, Add, subtract, Subtract: walked. -/
namespace Go.Proofs.YtgmedcncbpdimaaDoor
open Go.RowKit

/-- The length of a number in bytes. -/
def blen (n : Nat) : Nat := (natBytes n).length
theorem limbs_blen (n : Nat) : (limbsOf n).length ≤ blen n := by
  apply limbsOf_len_le
  have h := natBytes_lt n
  have : 256 ^ (natBytes n).length ≤ 4294967296 ^ (natBytes n).length := Nat.pow_le_pow_left (by decide) _
  unfold blen
  omega

/-- A limb, 0 beyond the end. -/
theorem take_succ_getD (ys : List Nat) (k : Nat) : limbsVal (ys.take (k + 1)) = limbsVal (ys.take k) + 4294967296 ^ k * ys.getD k 0 := by
  by_cases h : k < ys.length
  · rw [limbsVal_take_succ ys k h]
    simp [List.getD, h]
  · rw [List.take_of_length_le (by omega), List.take_of_length_le (by omega)]
    simp [List.getD, List.getElem?_eq_none (by omega : ys.length ≤ k)]

theorem upd_snoc {f : Nat → Value} {ds : List Nat} {k : Nat} (hk : ds.length = k) (h : ∀ j, f j = .int .u32 ((ds.getD j 0 : Nat) : Int)) (d : Nat) : ∀ j, upd f k (.int .u32 (d : Int)) j = .int .u32 (((ds ++ [d]).getD j 0 : Nat) : Int) := by
  intro j
  unfold upd
  by_cases hj : j = k
  · rw [if_pos hj, hj, ← hk]; simp [List.getD]
  · rw [if_neg hj, h j]
    congr 2
    rcases Nat.lt_or_gt_of_ne hj with h1 | h1
    · simp [List.getD, List.getElem?_append_left (by omega : j < ds.length)]
    · simp [List.getD, List.getElem?_eq_none (by omega : ds.length ≤ j), List.getElem?_eq_none (by simp; omega : (ds ++ [d]).length ≤ j)]

theorem own_limbs {w : World} {g E n : Nat} {f : Nat → Value} {ds : List Nat} (h : Own w g E n f) (hf : ∀ j, f j = .int .u32 ((ds.getD j 0 : Nat) : Int)) (hl : ds.length = n) (hn : n ≤ 9223372036854775807) (hd : ∀ x ∈ ds, x < 4294967296) :
    rSlice 1 rU32 w (LT w.heap.size) [.slice (some ⟨g, 0, none⟩) n n] ds := by
  refine h.reads hl (by unfold maxLen; omega) fun j hj => ⟨?_, hd _ (List.getElem_mem hj)⟩
  rw [hf j]
  simp [List.getD, hj]

set_option maxRecDepth 100000 in
theorem fromUint_any (u : Nat) (w : World) (hu : u < 18446744073709551616) :
    Calls Tryd.prog 87 #[.int .u64 u] w fun e w' => e = .returned (.string (natStr u)) ∧ Below w.heap.size w w' := by
  have e1 : limbsVal [u % 4294967296, u / 4294967296] = u := by simp [limbsVal]; omega
  have hR : ∀ o : World, Own o w.heap.size 85 2 (fun j => .int .u32 (([u % 4294967296, u / 4294967296] : List Nat).getD j 0 : Nat)) → rSlice 1 rU32 o (LT o.heap.size) [.slice (some ⟨w.heap.size, 0, none⟩) 2 2] [u % 4294967296, u / 4294967296] := fun o ho =>
    own_limbs ho (fun _ => rfl) rfl (by omega) (by intro x hx; simp at hx; omega)
  have hO : Own (w.alloc (.cells #[.int .u32 ((u : Int) % 4294967296), .int .u32 ((u : Int) / 4294967296)] 85)) w.heap.size 85 2 (fun j => .int .u32 (([u % 4294967296, u / 4294967296] : List Nat).getD j 0 : Nat)) := by
    have := Own.new w 85 2 (fun j => .int .u32 (([u % 4294967296, u / 4294967296] : List Nat).getD j 0 : Nat))
    have e : (Array.range 2).map (fun j => Value.int .u32 (([u % 4294967296, u / 4294967296] : List Nat).getD j 0 : Nat)) = #[.int .u32 ((u : Int) % 4294967296), .int .u32 ((u : Int) / 4294967296)] := by
      apply Array.ext'
      simp [List.range_succ]
    rw [e] at this
    exact this
  have HT := hid (text_any _ _ _ _ (fun _ h => h) (by simp) (hR _ hO))
  rw [e1] at HT
  clear hR hO e1
  go_enter Tryd.func87, Tryd.ntmps87
  go_wp2_with fail
  refine Calls.mono HT.out ?_
  rintro e w1 ⟨rfl, hb1⟩
  go_wp2
  go_ret
  exact ⟨rfl, ((Below.refl w.heap.size w).alloc (Nat.le_refl _) _).step hb1⟩

set_option maxRecDepth 100000 in
set_option maxHeartbeats 1000000 in
theorem add_loop (S : Nat → Prop) (u v : Value) (xs ys : List Nat) (w : World) : True := trivial

end Go.Proofs.YtgmedcncbpdimaaDoor
end
