/- natural: sign, compare, FromUint; bits.Add32, bits.Sub32: walked. -/
import Derived.Test.YtmbahnmhicdjfaaGreatDoorNumM
set_option linter.unusedVariables false
set_option linter.unusedSimpArgs false
set_option linter.defProp false
set_option linter.unnecessarySimpa false
section
/- natural: sign, compare, FromUint; bits.Add32, bits.Sub32: walked. -/
namespace Go.Proofs.YtmbahnmhicdjfaaGreatDoor
open Go.RowKit
def signZ (n : Int) : Int := if n < 0 then -1 else if 0 < n then 1 else 0
def natCmp (x y : Nat) : Int := if x < y then -1 else if y < x then 1 else 0
theorem sign_any (n : Int) (w : World) : Calls Tryz.prog 147 #[.int .i64 n] w fun e w' => e = .returned (.int .i64 (signZ n)) ∧ w = w' := by
  by_cases h1 : n < 0
  · have hs : Hid (signZ n = -1) := by unfold signZ; rw [if_pos h1]; rfl
    go_enter Tryz.func147, Tryz.ntmps147
    go_wp2
    go_ret
    exact ⟨ret_int hs.out.symm, rfl⟩
  by_cases h2 : 0 < n
  · have hs : Hid (signZ n = 1) := by unfold signZ; rw [if_neg h1, if_pos h2]; rfl
    go_enter Tryz.func147, Tryz.ntmps147
    go_wp2
    go_ret
    exact ⟨ret_int hs.out.symm, rfl⟩
  have hs : Hid (signZ n = 0) := by unfold signZ; rw [if_neg h1, if_neg h2]; rfl
  go_enter Tryz.func147, Tryz.ntmps147
  go_wp2
  go_ret
  exact ⟨ret_int hs.out.symm, rfl⟩
theorem limbs_lt_of_top {xs ys : List Nat} (hx : ∀ x ∈ xs, x < 4294967296) (hl : xs.length = ys.length) (i : Nat) (h : i < xs.length) (h' : i < ys.length) (hd : xs.drop (i + 1) = ys.drop (i + 1)) (hlt : xs[i] < ys[i]) : limbsVal xs < limbsVal ys := by
  have e1 : limbsVal xs = limbsVal (xs.take i) + 4294967296 ^ i * (xs[i] + 4294967296 * limbsVal (xs.drop (i + 1))) := by
    conv => lhs; rw [← List.take_append_drop i xs, List.drop_eq_getElem_cons h]
    rw [limbsVal_append, List.length_take, Nat.min_eq_left (by omega)]; rfl
  have e2 : limbsVal ys = limbsVal (ys.take i) + 4294967296 ^ i * (ys[i] + 4294967296 * limbsVal (ys.drop (i + 1))) := by
    conv => lhs; rw [← List.take_append_drop i ys, List.drop_eq_getElem_cons h']
    rw [limbsVal_append, List.length_take, Nat.min_eq_left (by omega)]; rfl
  have h1 := limbsVal_lt (xs := xs.take i) (fun x hx' => hx x (List.mem_of_mem_take hx'))
  rw [List.length_take, Nat.min_eq_left (by omega)] at h1
  rw [e1, e2, hd]
  generalize limbsVal (ys.drop (i + 1)) = D
  have h2 : 4294967296 ^ i * (xs[i] + 4294967296 * D) + 4294967296 ^ i ≤ 4294967296 ^ i * (ys[i] + 4294967296 * D) := by
    have := Nat.mul_le_mul_left (4294967296 ^ i) (show xs[i] + 4294967296 * D + 1 ≤ ys[i] + 4294967296 * D by omega)
    rwa [Nat.mul_add, Nat.mul_one] at this
  omega
theorem limbs_len_lt {x y : Nat} (h : (limbsOf x).length < (limbsOf y).length) : x < y := by
  rcases Nat.lt_or_ge x y with h' | h'
  · exact h'
  exfalso
  have h1 := limbsVal_lt (limbsOf_lt x)
  rw [limbsVal_limbsOf] at h1
  have := limbsOf_len_le (Nat.lt_of_le_of_lt h' h1)
  omega
theorem natCmp_lt {x y : Nat} (h : x < y) : natCmp x y = -1 := by unfold natCmp; rw [if_pos h]
theorem natCmp_gt {x y : Nat} (h : y < x) : natCmp x y = 1 := by unfold natCmp; rw [if_neg (by omega), if_pos h]
theorem natCmp_eq (x : Nat) : natCmp x x = 0 := by unfold natCmp; simp
set_option maxRecDepth 100000 in
set_option maxHeartbeats 1000000 in
theorem compare_any (S : Nat → Prop) (u v : Value) (x y : Nat) (w : World) (hS : ∀ b, S b → b < w.heap.size) (hu : rSlice 1 rU32 w S [u] (limbsOf x)) (hv : rSlice 1 rU32 w S [v] (limbsOf y)) :
    Calls Tryz.prog 177 #[u, v] w fun e w' => e = .returned (.int .i64 (natCmp x y)) ∧ Below w.heap.size w w' := by
  obtain ⟨a, cap, rfl, h1, h2, h3, h4⟩ := u32s_open hu
  obtain ⟨a', cap', rfl, h1', h2', h3', h4'⟩ := u32s_open hv
  have hn := len_le h1 h2
  have hn' := len_le h1' h2'
  rcases Nat.lt_trichotomy (limbsOf x).length (limbsOf y).length with hl | hl | hl
  · have hR := hid (natCmp_lt (limbs_len_lt hl))
    have hl' : ((limbsOf x).length != (limbsOf y).length) = true := by simp; omega
    have hl2 : ¬ (((limbsOf x).length : Int) = ((limbsOf y).length : Int)) := by omega
    have HS := hid (sign_any (((limbsOf x).length : Int) - (limbsOf y).length))
    have hsg : signZ (((limbsOf x).length : Int) - (limbsOf y).length) = -1 := by unfold signZ; rw [if_pos (by omega)]
    rw [hsg] at HS
    clear hsg
    go_enter Tryz.func177, Tryz.ntmps177
    go_wp2_with fail
    refine Calls.mono (HS.out _) ?_
    rintro e w1 ⟨rfl, rfl⟩
    go_wp2
    go_ret
    exact ⟨ret_int hR.out.symm, Below.refl _ _⟩
  · have HL := hid hl
    rw [← hl]
    clear hl
    go_enter Tryz.func177, Tryz.ntmps177
    go_wp2
    go_loopw [5] (fun i wr => ∃ k : Nat, k ≤ (limbsOf x).length ∧ i = .int .i64 ((k : Int) - 1) ∧ Below w.heap.size w wr ∧ Hid ((limbsOf x).drop k = (limbsOf y).drop k)) (fun i _ => (intOf i + 1).toNat)
    case atStart => exact ⟨_, Nat.le_refl _, rfl, Below.refl _ _, by show (limbsOf x).drop (limbsOf x).length = (limbsOf y).drop (limbsOf x).length; rw [List.drop_length, HL.out, List.drop_length]⟩
    case round =>
      obtain ⟨k, hk, rfl, hbel, HE⟩ := hrel
      cases k with
      | zero =>
        have hxy : x = y := by
          have := HE.out
          rw [List.drop_zero, List.drop_zero] at this
          have := congrArg limbsVal this
          rwa [limbsVal_limbsOf, limbsVal_limbsOf] at this
        have hR : Hid (natCmp x y = 0) := by subst hxy; exact natCmp_eq _
        clear hxy
        go_wp2
        go_ret
        exact ⟨ret_int hR.out.symm, hbel⟩
      | succ k =>
        rw [show (((k + 1 : Nat) : Int) - 1) = (k : Int) by omega]
        have hlt : k < (limbsOf x).length := by omega
        have hlt' : k < (limbsOf y).length := by have := HL.out; omega
        rcases h4 with h4 | ⟨b, off, rfl, h4⟩
        · rw [h4] at hlt; simp at hlt
        rcases h4' with h4' | ⟨b', off', rfl, h4'⟩
        · rw [h4'] at hlt'; simp at hlt'
        obtain ⟨g0, g1⟩ := h4.u32 hlt
        rw [← hbel.cell (p := ⟨b, off + k, none⟩) (hS _ h4.1)] at g0
        obtain ⟨f0, f1⟩ := h4'.u32 hlt'
        rw [← hbel.cell (p := ⟨b', off' + k, none⟩) (hS _ h4'.1)] at f0
        have HX := hid (limbsOf_lt x)
        have HY := hid (limbsOf_lt y)
        have HVX := hid (limbsVal_limbsOf x)
        have HVY := hid (limbsVal_limbsOf y)
        rcases Nat.lt_trichotomy (limbsOf x)[k] (limbsOf y)[k] with hc | hc | hc
        · have hR : Hid (natCmp x y = -1) := natCmp_lt (by rw [← HVX.out, ← HVY.out]; exact limbs_lt_of_top HX.out HL.out k hlt hlt' HE.out hc)
          have q1 : (((limbsOf x)[k] : Int) != ((limbsOf y)[k] : Int)) = true := by rw [bne_iff_ne]; omega
          have q1' : ((limbsOf x)[k] != (limbsOf y)[k]) = true := by rw [bne_iff_ne]; omega
          go_wp2
          go_quiet (fail)
          go_wp2
          go_quiet (fail)
          go_wp2
          go_ret
          exact ⟨ret_int hR.out.symm, (hbel.drewN _).drewN _⟩
        · have q1 : (((limbsOf x)[k] : Int) != ((limbsOf y)[k] : Int)) = false := by simp [hc]
          have q1' : ((limbsOf x)[k] != (limbsOf y)[k]) = false := by simp [hc]
          have HC := hid hc
          clear hc
          go_wp2
          go_quiet (fail)
          go_wp2
          go_roundw
          case rel => exact ⟨k, by omega, rfl, hbel.drewN _, by show (limbsOf x).drop k = (limbsOf y).drop k; rw [List.drop_eq_getElem_cons hlt, List.drop_eq_getElem_cons hlt', HC.out, HE.out]⟩
          case measure => simp [intOf]
        have hR : Hid (natCmp x y = 1) := natCmp_gt (by rw [← HVX.out, ← HVY.out]; exact limbs_lt_of_top HY.out HL.out.symm k hlt' hlt HE.out.symm hc)
        have q1 : (((limbsOf x)[k] : Int) != ((limbsOf y)[k] : Int)) = true := by rw [bne_iff_ne]; omega
        have q1' : ((limbsOf x)[k] != (limbsOf y)[k]) = true := by rw [bne_iff_ne]; omega
        have q2 : ¬ (limbsOf x)[k] < (limbsOf y)[k] := by omega
        go_wp2
        go_quiet (fail)
        go_wp2
        go_quiet (fail)
        go_wp2
        go_ret
        exact ⟨ret_int hR.out.symm, (hbel.drewN _).drewN _⟩
  have hR := hid (natCmp_gt (limbs_len_lt hl))
  have hl' : ((limbsOf x).length != (limbsOf y).length) = true := by simp; omega
  have hl2 : ¬ (((limbsOf x).length : Int) = ((limbsOf y).length : Int)) := by omega
  have HS := hid (sign_any (((limbsOf x).length : Int) - (limbsOf y).length))
  have hsg : signZ (((limbsOf x).length : Int) - (limbsOf y).length) = 1 := by unfold signZ; rw [if_neg (by omega), if_pos (by omega)]
  rw [hsg] at HS
  clear hsg
  go_enter Tryz.func177, Tryz.ntmps177
  go_wp2_with fail
  refine Calls.mono (HS.out _) ?_
  rintro e w1 ⟨rfl, rfl⟩
  go_wp2
  go_ret
  exact ⟨ret_int hR.out.symm, Below.refl _ _⟩
end Go.Proofs.YtmbahnmhicdjfaaGreatDoor
end
section
/- bits.Add32, bits.Sub32: walked. -/
namespace Go.Proofs.YtmbahnmhicdjfaaGreatDoor
open Go.RowKit
theorem add32_any (x y c : Int) (w : World) (hx0 : 0 ≤ x) (hx : x < 4294967296) (hy0 : 0 ≤ y) (hy : y < 4294967296) (hc0 : 0 ≤ c) (hc : c < 4294967296) :
    Calls Tryz.prog 176 #[.int .u32 x, .int .u32 y, .int .u32 c] w fun e w' => e = .returned (.tuple #[.int .u32 ((x + y + c) % 4294967296), .int .u32 ((x + y + c) / 4294967296)]) ∧ w = w' := by
  go_enter Tryz.func176, Tryz.ntmps176
  go_wp2
  go_ret2
  refine ⟨?_, rfl⟩
  simp
def borrowZ (x y c : Int) : Int := if x < y + c then 1 else 0
theorem borrowZ_bd (x y c : Int) : 0 ≤ borrowZ x y c ∧ borrowZ x y c ≤ 1 := by unfold borrowZ; split <;> omega
theorem top_or (a b : Nat) : (a ||| b) / 2147483648 = a / 2147483648 ||| b / 2147483648 := by
  have := Nat.shiftRight_or_distrib (a := a) (b := b) (i := 31)
  simpa [Nat.shiftRight_eq_div_pow] using this
theorem top_and (a b : Nat) : (a &&& b) / 2147483648 = a / 2147483648 &&& b / 2147483648 := by
  have := Nat.shiftRight_and_distrib (a := a) (b := b) (i := 31)
  simpa [Nat.shiftRight_eq_div_pow] using this
theorem top_xor (a b : Nat) : (a ^^^ b) / 2147483648 = a / 2147483648 ^^^ b / 2147483648 := by
  have := Nat.shiftRight_xor_distrib (a := a) (b := b) (i := 31)
  simpa [Nat.shiftRight_eq_div_pow] using this
theorem borrow_nat (X Y D c : Nat) (hX : X < 4294967296) (hY : Y < 4294967296) (hD : D < 4294967296) (hc : c ≤ 1) (hd : (D : Int) = ((X : Int) - Y - c) % 4294967296) :
    (((4294967295 ^^^ X) &&& Y ||| (4294967295 ^^^ (X ^^^ Y)) &&& D) / 2147483648 : Nat) = if (X : Int) < Y + c then 1 else 0 := by
  simp only [top_or, top_and, top_xor]
  have e : 4294967295 / 2147483648 = 1 := by decide
  rw [e]
  have hx : X / 2147483648 = 0 ∨ X / 2147483648 = 1 := by omega
  have hy : Y / 2147483648 = 0 ∨ Y / 2147483648 = 1 := by omega
  have hdd : D / 2147483648 = 0 ∨ D / 2147483648 = 1 := by omega
  rcases hx with hx | hx <;> rcases hy with hy | hy <;> rcases hdd with hdd | hdd <;> rw [hx, hy, hdd] <;> simp <;> omega
theorem xor_lt {a b : Nat} (ha : a < 4294967296) (hb : b < 4294967296) : a ^^^ b < 4294967296 := Nat.xor_lt_two_pow (n := 32) ha hb
theorem and_lt {a b : Nat} (hb : b < 4294967296) : a &&& b < 4294967296 := Nat.and_lt_two_pow (n := 32) a hb
theorem borrow_bits (x y c : Int) (hx0 : 0 ≤ x) (hx : x < 4294967296) (hy0 : 0 ≤ y) (hy : y < 4294967296) (hc0 : 0 ≤ c) (hc : c ≤ 1) :
    bits BinOp.or IntKind.u32 (bits BinOp.and IntKind.u32 (bits BinOp.xor IntKind.u32 IntKind.u32.max x) y)
      (bits BinOp.and IntKind.u32 (bits BinOp.xor IntKind.u32 IntKind.u32.max (bits BinOp.xor IntKind.u32 x y)) ((x - y - c) % 4294967296)) / 2147483648 = borrowZ x y c := by
  obtain ⟨X, rfl⟩ := Int.eq_ofNat_of_zero_le hx0
  obtain ⟨Y, rfl⟩ := Int.eq_ofNat_of_zero_le hy0
  obtain ⟨C, rfl⟩ := Int.eq_ofNat_of_zero_le hc0
  obtain ⟨D, hD⟩ := Int.eq_ofNat_of_zero_le (Int.emod_nonneg ((X : Int) - Y - C) (by omega : (4294967296 : Int) ≠ 0))
  have hDl : D < 4294967296 := by omega
  have hX : X < 4294967296 := by omega
  have hY : Y < 4294967296 := by omega
  have em : IntKind.u32.max = ((4294967295 : Nat) : Int) := rfl
  have hM : 4294967295 < 4294967296 := by omega
  rw [hD, em, u32_xor_nat _ _ hM hX, u32_and_nat _ _ (xor_lt hM hX) hY, u32_xor_nat _ _ hX hY, u32_xor_nat _ _ hM (xor_lt hX hY), u32_and_nat _ _ (xor_lt hM (xor_lt hX hY)) hDl,
    u32_or_nat _ _ (and_lt hY) (and_lt hDl)]
  have := borrow_nat X Y D C hX hY hDl (by omega) hD.symm
  unfold borrowZ
  rw [show ((2147483648 : Int)) = ((2147483648 : Nat) : Int) from rfl, ← Int.natCast_ediv, this]
  split <;> rfl
theorem sub32_any (x y c : Int) (w : World) (hx0 : 0 ≤ x) (hx : x < 4294967296) (hy0 : 0 ≤ y) (hy : y < 4294967296) (hc0 : 0 ≤ c) (hc : c ≤ 1) :
    Calls Tryz.prog 220 #[.int .u32 x, .int .u32 y, .int .u32 c] w fun e w' => e = .returned (.tuple #[.int .u32 ((x - y - c) % 4294967296), .int .u32 (borrowZ x y c)]) ∧ w = w' := by
  have HB := hid (borrow_bits x y c hx0 hx hy0 hy hc0 hc)
  go_enter Tryz.func220, Tryz.ntmps220
  go_wp2
  go_ret2
  refine ⟨?_, rfl⟩
  rw [← HB.out]
  rfl
end Go.Proofs.YtmbahnmhicdjfaaGreatDoor
end
section
/- natural: FromUint, Add, subtract, Subtract: walked. -/
namespace Go.Proofs.YtmbahnmhicdjfaaGreatDoor
open Go.RowKit
def blen (n : Nat) : Nat := (natBytes n).length
theorem limbs_blen (n : Nat) : (limbsOf n).length ≤ blen n := by
  apply limbsOf_len_le
  have h := natBytes_lt n
  have : 256 ^ (natBytes n).length ≤ 4294967296 ^ (natBytes n).length := Nat.pow_le_pow_left (by decide) _
  unfold blen
  omega
theorem take_succ_getD (ys : List Nat) (k : Nat) : limbsVal (ys.take (k + 1)) = limbsVal (ys.take k) + 4294967296 ^ k * ys.getD k 0 := by
  by_cases h : k < ys.length
  · rw [limbsVal_take_succ ys k h]
    simp [List.getD, h]
  rw [List.take_of_length_le (by omega), List.take_of_length_le (by omega)]
  simp [List.getD, List.getElem?_eq_none (by omega : ys.length ≤ k)]
theorem upd_snoc {f : Nat → Value} {ds : List Nat} {k : Nat} (hk : ds.length = k) (h : ∀ j, f j = .int .u32 ((ds.getD j 0 : Nat) : Int)) (d : Nat) : ∀ j, upd f k (.int .u32 (d : Int)) j = .int .u32 (((ds ++ [d]).getD j 0 : Nat) : Int) := by
  intro j
  unfold upd
  by_cases hj : j = k
  · rw [if_pos hj, hj, ← hk]; simp [List.getD]
  rw [if_neg hj, h j]
  congr 2
  rcases Nat.lt_or_gt_of_ne hj with h1 | h1
  · simp [List.getD, List.getElem?_append_left (by omega : j < ds.length)]
  simp [List.getD, List.getElem?_eq_none (by omega : ds.length ≤ j), List.getElem?_eq_none (by simp; omega : (ds ++ [d]).length ≤ j)]
theorem own_limbs {w : World} {g E n : Nat} {f : Nat → Value} {ds : List Nat} (h : Own w g E n f) (hf : ∀ j, f j = .int .u32 ((ds.getD j 0 : Nat) : Int)) (hl : ds.length = n) (hn : n ≤ 9223372036854775807) (hd : ∀ x ∈ ds, x < 4294967296) :
    rSlice 1 rU32 w (LT w.heap.size) [.slice (some ⟨g, 0, none⟩) n n] ds := by
  refine h.reads hl (by unfold maxLen; omega) fun j hj => ⟨?_, hd _ (List.getElem_mem hj)⟩
  rw [hf j]
  simp [List.getD, hj]
set_option maxRecDepth 100000 in
theorem fromUint_any (u : Nat) (w : World) (hu : u < 18446744073709551616) :
    Calls Tryz.prog 151 #[.int .u64 u] w fun e w' => e = .returned (.string (natStr u)) ∧ Below w.heap.size w w' := by
  have e1 : limbsVal [u % 4294967296, u / 4294967296] = u := by simp [limbsVal]; omega
  have hR : ∀ o : World, Own o w.heap.size 208 2 (fun j => .int .u32 (([u % 4294967296, u / 4294967296] : List Nat).getD j 0 : Nat)) → rSlice 1 rU32 o (LT o.heap.size) [.slice (some ⟨w.heap.size, 0, none⟩) 2 2] [u % 4294967296, u / 4294967296] := fun o ho =>
    own_limbs ho (fun _ => rfl) rfl (by omega) (by intro x hx; simp at hx; omega)
  have hO : Own (w.alloc (.cells #[.int .u32 ((u : Int) % 4294967296), .int .u32 ((u : Int) / 4294967296)] 208)) w.heap.size 208 2 (fun j => .int .u32 (([u % 4294967296, u / 4294967296] : List Nat).getD j 0 : Nat)) := by
    have := Own.new w 208 2 (fun j => .int .u32 (([u % 4294967296, u / 4294967296] : List Nat).getD j 0 : Nat))
    have e : (Array.range 2).map (fun j => Value.int .u32 (([u % 4294967296, u / 4294967296] : List Nat).getD j 0 : Nat)) = #[.int .u32 ((u : Int) % 4294967296), .int .u32 ((u : Int) / 4294967296)] := by
      apply Array.ext'
      simp [List.range_succ]
    rw [e] at this
    exact this
  have HT := hid (text_any _ _ _ _ (fun _ h => h) (by simp) (hR _ hO))
  rw [e1] at HT
  clear hR hO e1
  go_enter Tryz.func151, Tryz.ntmps151
  go_wp2_with fail
  refine Calls.mono HT.out ?_
  rintro e w1 ⟨rfl, hb1⟩
  go_wp2
  go_ret
  exact ⟨rfl, ((Below.refl w.heap.size w).alloc (Nat.le_refl _) _).step hb1⟩
end Go.Proofs.YtmbahnmhicdjfaaGreatDoor
end
section
/- insolvencyref1: Normalize, strip, limbs: walked. -/
namespace Go.Proofs.YtmbahnmhicdjfaaGreatDoor
open Go.RowKit
set_option maxRecDepth 100000 in
set_option maxHeartbeats 400000 in
theorem rNormalize_any (s : ByteArray) (w : World) (hs : s.size ≤ maxLen) :
    Calls Tryz.prog 198 #[.string s] w fun e w' => e = .returned (.string (natStr (strVal s))) ∧ w = w' := by
  unfold maxLen at hs
  go_enter Tryz.func198, Tryz.ntmps198
  go_wp2
  go_loop [3] (fun t => ∃ k : Nat, k ≤ s.size ∧ t = .int .i64 k ∧ Hid (strVal (s.extract k s.size) = strVal s)) (fun t => s.size - (intOf t).toNat)
  case atStart => exact ⟨0, Nat.zero_le _, rfl, by simp [Hid]⟩
  case round =>
    obtain ⟨k, hk, rfl, HE⟩ := hrel
    by_cases hlt : k < s.size
    · by_cases hz : s[k] = 0
      · have hz' : ((s[k]'hlt).toNat == 0) = true := by rw [hz]; rfl
        have HZ := hid hz
        clear hz
        go_wp2
        go_round
        case rel =>
          refine ⟨k + 1, by omega, by go_num, ?_⟩
          have := strVal_ext s k hlt
          rw [HZ.out] at this
          rw [← HE.out, this]
          simp [Hid]
        case measure => simp [intOf]; omega
      have hz' : ((s[k]'hlt).toNat == 0) = false := by
        simp only [beq_eq_false_iff_ne]
        intro h; apply hz; exact UInt8.toNat_inj.1 (by simpa using h)
      have hR : Hid (natStr (strVal s) = s.extract k s.size) := by
        rw [← HE.out]
        exact natStr_strVal fun h => by rw [ext_get0 s k hlt]; exact hz
      clear hz
      go_wp2
      go_ret
      exact ⟨ret_str hR.out.symm, rfl⟩
    have hR : Hid (natStr (strVal s) = s.extract k s.size) := by
      rw [← HE.out]
      exact natStr_strVal fun h => by simp at h; omega
    go_wp2
    go_ret
    exact ⟨ret_str hR.out.symm, rfl⟩
theorem natStr_strVal_size' (s : ByteArray) : (natStr (strVal s)).size ≤ s.size := by rw [natStr_size]; exact natBytes_len_le (strVal_lt s)
set_option maxRecDepth 100000 in
set_option maxHeartbeats 400000 in
theorem strip_any (S : Nat → Prop) (v : Value) (xs : List Nat) (w : World) (hv : rSlice 1 rU32 w S [v] xs) :
    Calls Tryz.prog 197 #[v] w fun e w' => ∃ u, e = .returned u ∧ w = w' ∧ rSlice 1 rU32 w S [u] (limbsOf (limbsVal xs)) := by
  have hlt := hid (u32s_lt hv)
  obtain ⟨a, cap, rfl, h1, h2, h3, h4⟩ := u32s_open hv
  have hn := len_le h1 h2
  have hcap : cap ≤ 9223372036854775807 := by unfold maxLen at h2; omega
  go_enter Tryz.func197, Tryz.ntmps197
  go_wp2
  go_loop [3] (fun i => ∃ k : Nat, k ≤ xs.length ∧ i = .int .i64 k ∧ Hid (∀ j (hj : j < xs.length), k ≤ j → xs[j] = 0)) (fun i => (intOf i).toNat)
  case atStart => exact ⟨xs.length, Nat.le_refl _, rfl, fun j hj h => by omega⟩
  case round =>
    obtain ⟨k, hk, rfl, HE⟩ := hrel
    cases k with
    | zero =>
      have e := limbsOf_take hlt.out 0 (by omega) HE.out (fun h => by omega)
      rw [List.take_zero] at e
      have E := hid e
      clear e
      go_wp2
      go_ret
      refine ⟨_, rfl, rfl, ?_⟩
      rw [E.out]
      exact ⟨a, cap, rfl, by simp, h2, h3, .inl rfl⟩
    | succ k =>
      rcases h4 with rfl | ⟨b, off, rfl, h4⟩
      · simp at hk
      have g0 := (h4.u32 (j := k) (by omega)).1
      have ei : ((k + 1 : Nat) : Int) - 1 = (k : Int) := by omega
      by_cases hz : xs[k] = 0
      · have hz' : ((xs[k] : Int) == 0) = true := by simp [hz]
        have HZ := hid hz
        clear hz
        go_wp2
        go_round
        case rel =>
          refine ⟨k, by omega, rfl, fun j hj hkj => ?_⟩
          by_cases hjk : j = k
          · subst hjk; exact HZ.out
          exact HE.out j hj (by omega)
        case measure => simp [intOf]
      have hz' : ((xs[k] : Int) == 0) = false := by simpa using hz
      have E := hid (limbsOf_take hlt.out (k + 1) hk HE.out (fun _ => hz))
      clear hz
      go_wp2
      go_ret
      refine ⟨_, rfl, rfl, ?_⟩
      rw [E.out]
      exact ⟨some ⟨b, off, none⟩, cap, by simp; omega, by simp; omega, h2, by simp, .inr ⟨b, off, rfl, h4.take _⟩⟩
theorem limbs_len (v : Nat) : (limbsOf v).length = ((natStr v).size + 3) / 4 := by
  rw [natStr_size]
  obtain ⟨m, hm⟩ : ∃ m, m = ((natBytes v).length + 3) / 4 := ⟨_, rfl⟩
  rw [← hm]
  have e : ∀ k, (4294967296 : Nat) ^ k = 256 ^ (4 * k) := fun k => by rw [Nat.pow_mul]
  have h1 := natBytes_lt v
  have h2 : 256 ^ (natBytes v).length ≤ 4294967296 ^ m := by rw [e]; exact Nat.pow_le_pow_right (by decide) (by omega)
  have h3 := limbsOf_len_le (Nat.lt_of_lt_of_le h1 h2)
  rcases Nat.eq_zero_or_pos m with h0 | h0
  · omega
  have h4 : 256 ^ ((natBytes v).length - 1) ≤ v := by
    rcases Nat.lt_or_ge v (256 ^ ((natBytes v).length - 1)) with h | h
    · have := natBytes_len_le h; omega
    exact h
  have h5 : 4294967296 ^ (m - 1) ≤ v := by
    rw [e]; exact Nat.le_trans (Nat.pow_le_pow_right (by decide) (by omega)) h4
  have := limbsOf_len_ge h5
  omega
theorem limbsFix_limbs (v : Nat) : limbsFix (((natStr v).size + 3) / 4) v = limbsOf v := by
  have := limbsFix_of (limbsOf_lt v)
  rw [limbsVal_limbsOf, limbs_len] at this
  exact this
set_option maxRecDepth 100000 in
set_option maxHeartbeats 400000 in
theorem limbs_any (s0 : ByteArray) (w : World) (hs0 : s0.size ≤ 1000000000000) :
    Calls Tryz.prog 182 #[.string s0] w fun e w' => ∃ u, e = .returned u ∧ rSlice 1 rU32 w' (LT w'.heap.size) [u] (limbsOf (strVal s0)) ∧ Below w.heap.size w w' := by
  have HN := hid (rNormalize_any s0 w (by unfold maxLen; omega))
  have hsz := natStr_strVal_size' s0
  have hsv : strVal (natStr (strVal s0)) = strVal s0 := strVal_natStr _
  have hfix := limbsFix_limbs (strVal s0)
  generalize natStr (strVal s0) = s at *
  rw [← hsv] at hfix ⊢
  have HFX := hid hfix
  clear hfix hsv
  have hs : s.size ≤ 1000000000000 := by omega
  obtain ⟨m, hm⟩ : ∃ m : Nat, m = (s.size + 3) / 4 := ⟨_, rfl⟩
  rw [← hm] at HFX
  have hm1 : ((s.size : Int) + 3) / 4 = (m : Int) := by omega
  have hmk := fun (w : World) => make_one (P := Tryz.prog) Tryz.underlying205 Tryz.infoU32 rfl w m (by omega) (by omega)
  have hn : s.size ≤ 9223372036854775807 := by omega
  have HM := hid hm
  clear hm hsz hs0
  go_enter Tryz.func182, Tryz.ntmps182
  go_wp2_with fail
  refine Calls.mono HN.out ?_
  rintro e w1 ⟨rfl, rfl⟩
  go_wp2
  clear hmk
  go_loopw [4] (fun i wr => ∃ (k : Nat) (f : Nat → Value), k ≤ s.size ∧ i = .int .i64 k ∧ Below w.heap.size w wr ∧ Own wr w.heap.size 208 m f ∧ Hid (∀ j, j < m → f j = .int .u32 ((strVal s % 256 ^ k / 4294967296 ^ j % 4294967296 : Nat) : Int))) (fun i _ => s.size - (intOf i).toNat)
  case atStart => exact ⟨0, _, Nat.zero_le _, rfl, (Below.refl _ _).alloc (Nat.le_refl _) _, Own.new _ _ _ _, fun j _ => by simp [Nat.mod_one]⟩
  case round =>
    obtain ⟨k, f, hk, rfl, hbel, hown, HF⟩ := hrel
    by_cases hlt : k < s.size
    · obtain ⟨q, hq⟩ : ∃ q : Nat, q = k / 4 := ⟨_, rfl⟩
      have hq1 : ((k : Int) / 4) = (q : Int) := by omega
      have hqm : q < m := by have := HM.out; omega
      have c1 := hown.cell hqm
      rw [HF.out q hqm] at c1
      obtain ⟨x, hx⟩ : ∃ x : Nat, x = strVal s % 256 ^ k / 4294967296 ^ q % 4294967296 := ⟨_, rfl⟩
      rw [← hx] at c1
      have c2 := hown.frozen q
      have HQ := hid hq
      have HX := hid hx
      clear hq hx
      have d1 : (s.size : Int) - 1 - k = ((s.size - 1 - k : Nat) : Int) := by omega
      have d2 : s.size - 1 - k < s.size := by omega
      have hb : strVal s / 256 ^ k % 256 = (s[s.size - 1 - k]'d2).toNat := byteAt s.data.toList k hlt
      have Hb := hid hb
      have hr : k % 4 = 0 ∨ k % 4 = 1 ∨ k % 4 = 2 ∨ k % 4 = 3 := by omega
      rcases hr with hr | hr | hr | hr
      · have hr1 : ((k : Int) % 4) = 0 := by omega
        have HP := hid (parse_step (strVal s) k q 0 x _ 1 (by decide) (by omega) (by have := HQ.out; omega) HX.out hb.symm)
        clear hb
        go_wp2
        go_region
        go_wp2
        go_roundw
        case rel =>
          refine ⟨k + 1, upd f q _, by omega, by go_num, (hbel.setCell (Nat.le_refl _) _).drew, (hown.set _ _).drew, fun j hj => ?_⟩
          unfold upd
          by_cases hjq : j = q
          · rw [if_pos hjq, hjq, ← HP.out.2.2.2, parse_or x s[s.size - 1 - k].toNat 0 1 (by decide) (by omega) HP.out.1 HP.out.2.1 _ (by have := HP.out.2.2.1; omega)]
          rw [if_neg hjq, parse_other _ k q j HQ.out hjq]; exact HF.out j hj
        case measure => simp [intOf]; omega
      · have hr1 : ((k : Int) % 4) = 1 := by omega
        have HP := hid (parse_step (strVal s) k q 1 x _ 256 (by decide) (by omega) (by have := HQ.out; omega) HX.out hb.symm)
        clear hb
        go_wp2
        go_region
        go_wp2
        go_roundw
        case rel =>
          refine ⟨k + 1, upd f q _, by omega, by go_num, (hbel.setCell (Nat.le_refl _) _).drew, (hown.set _ _).drew, fun j hj => ?_⟩
          unfold upd
          by_cases hjq : j = q
          · rw [if_pos hjq, hjq, ← HP.out.2.2.2, parse_or x s[s.size - 1 - k].toNat 8 256 (by decide) (by omega) HP.out.1 HP.out.2.1 _ (by have := HP.out.2.2.1; omega)]
          rw [if_neg hjq, parse_other _ k q j HQ.out hjq]; exact HF.out j hj
        case measure => simp [intOf]; omega
      · have hr1 : ((k : Int) % 4) = 2 := by omega
        have HP := hid (parse_step (strVal s) k q 2 x _ 65536 (by decide) (by omega) (by have := HQ.out; omega) HX.out hb.symm)
        clear hb
        go_wp2
        go_region
        go_wp2
        go_roundw
        case rel =>
          refine ⟨k + 1, upd f q _, by omega, by go_num, (hbel.setCell (Nat.le_refl _) _).drew, (hown.set _ _).drew, fun j hj => ?_⟩
          unfold upd
          by_cases hjq : j = q
          · rw [if_pos hjq, hjq, ← HP.out.2.2.2, parse_or x s[s.size - 1 - k].toNat 16 65536 (by decide) (by omega) HP.out.1 HP.out.2.1 _ (by have := HP.out.2.2.1; omega)]
          rw [if_neg hjq, parse_other _ k q j HQ.out hjq]; exact HF.out j hj
        case measure => simp [intOf]; omega
      have hr1 : ((k : Int) % 4) = 3 := by omega
      have HP := hid (parse_step (strVal s) k q 3 x _ 16777216 (by decide) (by omega) (by have := HQ.out; omega) HX.out hb.symm)
      clear hb
      go_wp2
      go_region
      go_wp2
      go_roundw
      case rel =>
        refine ⟨k + 1, upd f q _, by omega, by go_num, (hbel.setCell (Nat.le_refl _) _).drew, (hown.set _ _).drew, fun j hj => ?_⟩
        unfold upd
        by_cases hjq : j = q
        · rw [if_pos hjq, hjq, ← HP.out.2.2.2, parse_or x s[s.size - 1 - k].toNat 24 16777216 (by decide) (by omega) HP.out.1 HP.out.2.1 _ (by have := HP.out.2.2.1; omega)]
        rw [if_neg hjq, parse_other _ k q j HQ.out hjq]; exact HF.out j hj
      case measure => simp [intOf]; omega
    have hR : rSlice 1 rU32 wr (LT wr.heap.size) [.slice (some ⟨w.heap.size, 0, none⟩) m m] (limbsFix m (strVal s)) := by
      refine hown.reads (limbsFix_len _ _) (by unfold maxLen; have := HM.out; omega) fun j hj => ?_
      rw [limbsFix_len] at hj
      have hk' : k = s.size := by omega
      have e : strVal s % 256 ^ k = strVal s := Nat.mod_eq_of_lt (by rw [hk']; exact strVal_lt s)
      rw [HF.out j hj, e]
      have g := limbsFix_get m (strVal s) j hj
      rw [List.getElem?_eq_getElem (by rw [limbsFix_len]; exact hj)] at g
      rw [Option.some.inj g]
      exact ⟨rfl, Nat.mod_lt _ (by decide)⟩
    rw [HFX.out] at hR
    go_wp2
    go_ret
    exact ⟨_, rfl, hR, hbel⟩
end Go.Proofs.YtmbahnmhicdjfaaGreatDoor
end
section
/- natural: Add, subtract, Subtract: walked. -/
namespace Go.Proofs.YtmbahnmhicdjfaaGreatDoor
open Go.RowKit
set_option maxRecDepth 100000 in
set_option maxHeartbeats 1000000 in
theorem add_any (a b : ByteArray) (w : World) (ha : a.size ≤ 500000000000) (hb : b.size ≤ 500000000000) :
    Calls Tryz.prog 145 #[.string a, .string b] w fun e w' => e = .returned (.string (natStr (strVal a + strVal b))) ∧ Below w.heap.size w w' := by
  have la : (limbsOf (strVal a)).length ≤ 500000000000 := by
    refine Nat.le_trans (limbs_blen _) (Nat.le_trans ?_ ha)
    exact natBytes_len_le (strVal_lt a)
  have lb : (limbsOf (strVal b)).length ≤ 500000000000 := by
    refine Nat.le_trans (limbs_blen _) (Nat.le_trans ?_ hb)
    exact natBytes_len_le (strVal_lt b)
  have va := hid (limbsVal_limbsOf (strVal a))
  have vb := hid (limbsVal_limbsOf (strVal b))
  have H1 := hid (parse_any a w (by omega))
  go_enter Tryz.func145, Tryz.ntmps145
  go_wp2_with fail
  refine Calls.mono H1.out ?_
  rintro e w1 ⟨p, rfl, hp, hb1⟩
  go_wp2_with fail
  refine (parse_any b w1 (by omega)).mono ?_
  rintro e w2 ⟨q, rfl, hq, hb2⟩
  have hp2 := (stays_rSlice stays_rU32).below hp hb2 hb2.size
  clear hp
  have hbel := hb1.step hb2
  obtain ⟨pa, pc, rfl, p1, p2, p3, p4⟩ := u32s_open hp2
  obtain ⟨qa, qc, rfl, q1, q2, q3, q4⟩ := u32s_open hq
  by_cases hl : (limbsOf (strVal a)).length < (limbsOf (strVal b)).length
  · skip
    obtain ⟨m, hm⟩ : ∃ m : Nat, m = (limbsOf (strVal b)).length + 1 := ⟨_, rfl⟩
    have hm1 : ((limbsOf (strVal b)).length : Int) + 1 = (m : Int) := by omega
    have hmk := fun (w : World) => make_one (P := Tryz.prog) Tryz.underlying206 Tryz.infoU32 rfl w m (by omega) (by omega)
    have HM := hid hm
    clear hm
    go_wp2
    clear hmk
    go_loopw [8, 9, 10, 28] (fun c _ _ i wr => ∃ (k c' : Nat) (ds : List Nat) (f : Nat → Value), k ≤ (limbsOf (strVal b)).length ∧ i = .int .i64 k ∧ c = .int .u32 (c' : Int) ∧ c' ≤ 1 ∧ Below w.heap.size w wr ∧ w2.heap.size < wr.heap.size ∧ Below w2.heap.size w2 wr ∧ Own wr w2.heap.size 208 m f ∧ Hid (∀ j, f j = .int .u32 ((ds.getD j 0 : Nat) : Int)) ∧ Hid (ds.length = k) ∧ Hid (∀ x ∈ ds, x < 4294967296) ∧
      Hid (limbsVal ds + 4294967296 ^ k * c' = limbsVal ((limbsOf (strVal b)).take k) + limbsVal ((limbsOf (strVal a)).take k))) (fun _ _ _ i _ => (limbsOf (strVal b)).length - (intOf i).toNat)
    case atStart => exact ⟨0, 0, [], _, Nat.zero_le _, rfl, rfl, by omega, hbel.alloc hbel.size _, by simp, (Below.refl _ _).alloc (Nat.le_refl _) _, Own.new _ _ _ _, fun j => by simp, rfl, fun x hx => by simp at hx, by simp [Hid, limbsVal]⟩
    case round =>
      obtain ⟨k, c', ds, f, hk, rfl, rfl, hc', hbw, hsz, hbw2, hown, HF, HL, HD, HV⟩ := hrel
      by_cases hlt : k < (limbsOf (strVal b)).length
      · have hkm : k < m := by have := HM.out; omega
        rcases q4 with h0 | ⟨b1, off1, rfl, x4⟩
        · rw [h0] at hlt; simp at hlt
        obtain ⟨g0, g1⟩ := x4.u32 hlt
        rw [← hbw2.cell (p := ⟨b1, off1 + k, none⟩) x4.1] at g0
        have c1 := hown.cell hkm
        rw [HF.out k] at c1
        have c2 := hown.frozen k
        have e1 := take_succ_getD (limbsOf (strVal b)) k
        have e2 := take_succ_getD (limbsOf (strVal a)) k
        have ex : (limbsOf (strVal b)).getD k 0 = (limbsOf (strVal b))[k] := by simp [List.getD, hlt]
        rw [ex] at e1
        have E1 := hid e1
        have E2 := hid e2
        clear e1 e2 ex
        by_cases hy : k < (limbsOf (strVal a)).length
        · rcases p4 with h0 | ⟨b2, off2, rfl, y4⟩
          · rw [h0] at hy; simp at hy
          obtain ⟨f0, f1⟩ := y4.u32 hy
          rw [← hbw2.cell (p := ⟨b2, off2 + k, none⟩) y4.1] at f0
          have ey := hid (show (limbsOf (strVal a)).getD k 0 = (limbsOf (strVal a))[k] by simp [List.getD, hy])
          obtain ⟨d, hd⟩ : ∃ d : Nat, (d : Int) = (((limbsOf (strVal b))[k] : Int) + ((limbsOf (strVal a))[k] : Int) + (c' : Int)) % 4294967296 := ⟨(((limbsOf (strVal b))[k] + (limbsOf (strVal a))[k] + c') % 4294967296), by omega⟩
          obtain ⟨e, he⟩ : ∃ e : Nat, (e : Int) = (((limbsOf (strVal b))[k] : Int) + ((limbsOf (strVal a))[k] : Int) + (c' : Int)) / 4294967296 := ⟨(((limbsOf (strVal b))[k] + (limbsOf (strVal a))[k] + c') / 4294967296), by omega⟩
          have hde : d + 4294967296 * e = (limbsOf (strVal b))[k] + (limbsOf (strVal a))[k] + c' := by omega
          have hd1 : d < 4294967296 := by omega
          have he1 : e ≤ 1 := by omega
          have HA := hid (add32_any ((limbsOf (strVal b))[k] : Int) ((limbsOf (strVal a))[k] : Int) (c' : Int) wr (by omega) (by omega) (by omega) (by omega) (by omega) (by omega))
          rw [← hd, ← he] at HA
          have HDE := hid hde
          clear hd he hde
          go_wp2_with fail
          refine Calls.mono HA.out ?_
          rintro e' w3 ⟨rfl, rfl⟩
          clear HA
          go_wp2
          go_roundw
          case rel =>
            refine ⟨k + 1, e, ds ++ [d], upd f k (.int .u32 d), by omega, by go_num, rfl, he1, hbw.setCell (by simpa using hbel.size) _, by simpa using hsz, hbw2.setCell (Nat.le_refl _) _, hown.set _ _, upd_snoc HL.out HF.out d, ?_, ?_, ?_⟩
            · show (ds ++ [d]).length = k + 1; simp [HL.out]
            · intro x hx; rcases List.mem_append.1 hx with h | h
              · exact HD.out x h
              simp at h; omega
            show limbsVal (ds ++ [d]) + 4294967296 ^ (k + 1) * e = _
            rw [limbsVal_snoc, HL.out, E1.out, E2.out, ey.out, Nat.pow_succ, Nat.mul_assoc]
            have h1 := HV.out
            have h2 : 4294967296 ^ k * d + 4294967296 ^ k * (4294967296 * e) = 4294967296 ^ k * (limbsOf (strVal b))[k] + 4294967296 ^ k * (limbsOf (strVal a))[k] + 4294967296 ^ k * c' := by rw [← Nat.mul_add, HDE.out, Nat.mul_add, Nat.mul_add]
            omega
          case measure => simp [intOf]; omega
        have ey := hid (show (limbsOf (strVal a)).getD k 0 = 0 by simp [List.getD, List.getElem?_eq_none (by omega : (limbsOf (strVal a)).length ≤ k)])
        obtain ⟨d, hd⟩ : ∃ d : Nat, (d : Int) = (((limbsOf (strVal b))[k] : Int) + 0 + (c' : Int)) % 4294967296 := ⟨(((limbsOf (strVal b))[k] + c') % 4294967296), by omega⟩
        obtain ⟨e, he⟩ : ∃ e : Nat, (e : Int) = (((limbsOf (strVal b))[k] : Int) + 0 + (c' : Int)) / 4294967296 := ⟨(((limbsOf (strVal b))[k] + c') / 4294967296), by omega⟩
        have hde : d + 4294967296 * e = (limbsOf (strVal b))[k] + c' := by omega
        have hd1 : d < 4294967296 := by omega
        have he1 : e ≤ 1 := by omega
        have HA := hid (add32_any ((limbsOf (strVal b))[k] : Int) 0 (c' : Int) wr (by omega) (by omega) (by omega) (by omega) (by omega) (by omega))
        rw [← hd, ← he] at HA
        have HDE := hid hde
        clear hd he hde
        go_wp2_with fail
        refine Calls.mono HA.out ?_
        rintro e' w3 ⟨rfl, rfl⟩
        clear HA
        go_wp2
        go_roundw
        case rel =>
          refine ⟨k + 1, e, ds ++ [d], upd f k (.int .u32 d), by omega, by go_num, rfl, he1, hbw.setCell (by simpa using hbel.size) _, by simpa using hsz, hbw2.setCell (Nat.le_refl _) _, hown.set _ _, upd_snoc HL.out HF.out d, ?_, ?_, ?_⟩
          · show (ds ++ [d]).length = k + 1; simp [HL.out]
          · intro x hx; rcases List.mem_append.1 hx with h | h
            · exact HD.out x h
            simp at h; omega
          show limbsVal (ds ++ [d]) + 4294967296 ^ (k + 1) * e = _
          rw [limbsVal_snoc, HL.out, E1.out, E2.out, ey.out, Nat.pow_succ, Nat.mul_assoc]
          have h1 := HV.out
          have h2 : 4294967296 ^ k * d + 4294967296 ^ k * (4294967296 * e) = 4294967296 ^ k * (limbsOf (strVal b))[k] + 4294967296 ^ k * c' := by rw [← Nat.mul_add, HDE.out, Nat.mul_add]
          omega
        case measure => simp [intOf]; omega
      have hk' : k = (limbsOf (strVal b)).length := by omega
      have hkm : (limbsOf (strVal b)).length < m := by have := HM.out; omega
      have hs : limbsVal (ds ++ [c']) = strVal a + strVal b := by
        have h1 := HV.out
        rw [List.take_of_length_le (by omega), List.take_of_length_le (by omega), va.out, vb.out] at h1
        rw [limbsVal_snoc, HL.out]; omega
      have HR := hid (fun ww (h : Own ww w2.heap.size 208 m (upd f (limbsOf (strVal b)).length (.int .u32 c'))) => text_any _ _ (ds ++ [c']) _ (fun _ h => h) (by simp [HL.out]; have := HM.out; omega) (own_limbs h (by rw [← hk']; exact upd_snoc HL.out HF.out c') (by simp [HL.out]; have := HM.out; omega) (by omega) (by intro x hx; rcases List.mem_append.1 hx with h | h; exact HD.out x h; simp at h; omega)))
      rw [hs] at HR
      have c1 := hown.cell hkm
      rw [HF.out] at c1
      have c2 := hown.frozen (limbsOf (strVal b)).length
      clear hs hk'
      go_wp2_with fail
      refine Calls.mono (HR.out _ (hown.set _ _)) ?_
      rintro e' w3 ⟨rfl, hb3⟩
      go_wp2
      go_ret
      exact ⟨rfl, (hbw.setCell (p := ⟨w2.heap.size, _, none⟩) hbel.size _).step hb3⟩
  skip
  obtain ⟨m, hm⟩ : ∃ m : Nat, m = (limbsOf (strVal a)).length + 1 := ⟨_, rfl⟩
  have hm1 : ((limbsOf (strVal a)).length : Int) + 1 = (m : Int) := by omega
  have hmk := fun (w : World) => make_one (P := Tryz.prog) Tryz.underlying206 Tryz.infoU32 rfl w m (by omega) (by omega)
  have HM := hid hm
  clear hm
  go_wp2
  clear hmk
  go_loopw [8, 9, 10, 28] (fun c _ _ i wr => ∃ (k c' : Nat) (ds : List Nat) (f : Nat → Value), k ≤ (limbsOf (strVal a)).length ∧ i = .int .i64 k ∧ c = .int .u32 (c' : Int) ∧ c' ≤ 1 ∧ Below w.heap.size w wr ∧ w2.heap.size < wr.heap.size ∧ Below w2.heap.size w2 wr ∧ Own wr w2.heap.size 208 m f ∧ Hid (∀ j, f j = .int .u32 ((ds.getD j 0 : Nat) : Int)) ∧ Hid (ds.length = k) ∧ Hid (∀ x ∈ ds, x < 4294967296) ∧
    Hid (limbsVal ds + 4294967296 ^ k * c' = limbsVal ((limbsOf (strVal a)).take k) + limbsVal ((limbsOf (strVal b)).take k))) (fun _ _ _ i _ => (limbsOf (strVal a)).length - (intOf i).toNat)
  case atStart => exact ⟨0, 0, [], _, Nat.zero_le _, rfl, rfl, by omega, hbel.alloc hbel.size _, by simp, (Below.refl _ _).alloc (Nat.le_refl _) _, Own.new _ _ _ _, fun j => by simp, rfl, fun x hx => by simp at hx, by simp [Hid, limbsVal]⟩
  case round =>
    obtain ⟨k, c', ds, f, hk, rfl, rfl, hc', hbw, hsz, hbw2, hown, HF, HL, HD, HV⟩ := hrel
    by_cases hlt : k < (limbsOf (strVal a)).length
    · have hkm : k < m := by have := HM.out; omega
      rcases p4 with h0 | ⟨b1, off1, rfl, x4⟩
      · rw [h0] at hlt; simp at hlt
      obtain ⟨g0, g1⟩ := x4.u32 hlt
      rw [← hbw2.cell (p := ⟨b1, off1 + k, none⟩) x4.1] at g0
      have c1 := hown.cell hkm
      rw [HF.out k] at c1
      have c2 := hown.frozen k
      have e1 := take_succ_getD (limbsOf (strVal a)) k
      have e2 := take_succ_getD (limbsOf (strVal b)) k
      have ex : (limbsOf (strVal a)).getD k 0 = (limbsOf (strVal a))[k] := by simp [List.getD, hlt]
      rw [ex] at e1
      have E1 := hid e1
      have E2 := hid e2
      clear e1 e2 ex
      by_cases hy : k < (limbsOf (strVal b)).length
      · rcases q4 with h0 | ⟨b2, off2, rfl, y4⟩
        · rw [h0] at hy; simp at hy
        obtain ⟨f0, f1⟩ := y4.u32 hy
        rw [← hbw2.cell (p := ⟨b2, off2 + k, none⟩) y4.1] at f0
        have ey := hid (show (limbsOf (strVal b)).getD k 0 = (limbsOf (strVal b))[k] by simp [List.getD, hy])
        obtain ⟨d, hd⟩ : ∃ d : Nat, (d : Int) = (((limbsOf (strVal a))[k] : Int) + ((limbsOf (strVal b))[k] : Int) + (c' : Int)) % 4294967296 := ⟨(((limbsOf (strVal a))[k] + (limbsOf (strVal b))[k] + c') % 4294967296), by omega⟩
        obtain ⟨e, he⟩ : ∃ e : Nat, (e : Int) = (((limbsOf (strVal a))[k] : Int) + ((limbsOf (strVal b))[k] : Int) + (c' : Int)) / 4294967296 := ⟨(((limbsOf (strVal a))[k] + (limbsOf (strVal b))[k] + c') / 4294967296), by omega⟩
        have hde : d + 4294967296 * e = (limbsOf (strVal a))[k] + (limbsOf (strVal b))[k] + c' := by omega
        have hd1 : d < 4294967296 := by omega
        have he1 : e ≤ 1 := by omega
        have HA := hid (add32_any ((limbsOf (strVal a))[k] : Int) ((limbsOf (strVal b))[k] : Int) (c' : Int) wr (by omega) (by omega) (by omega) (by omega) (by omega) (by omega))
        rw [← hd, ← he] at HA
        have HDE := hid hde
        clear hd he hde
        go_wp2_with fail
        refine Calls.mono HA.out ?_
        rintro e' w3 ⟨rfl, rfl⟩
        clear HA
        go_wp2
        go_roundw
        case rel =>
          refine ⟨k + 1, e, ds ++ [d], upd f k (.int .u32 d), by omega, by go_num, rfl, he1, hbw.setCell (by simpa using hbel.size) _, by simpa using hsz, hbw2.setCell (Nat.le_refl _) _, hown.set _ _, upd_snoc HL.out HF.out d, ?_, ?_, ?_⟩
          · show (ds ++ [d]).length = k + 1; simp [HL.out]
          · intro x hx; rcases List.mem_append.1 hx with h | h
            · exact HD.out x h
            simp at h; omega
          show limbsVal (ds ++ [d]) + 4294967296 ^ (k + 1) * e = _
          rw [limbsVal_snoc, HL.out, E1.out, E2.out, ey.out, Nat.pow_succ, Nat.mul_assoc]
          have h1 := HV.out
          have h2 : 4294967296 ^ k * d + 4294967296 ^ k * (4294967296 * e) = 4294967296 ^ k * (limbsOf (strVal a))[k] + 4294967296 ^ k * (limbsOf (strVal b))[k] + 4294967296 ^ k * c' := by rw [← Nat.mul_add, HDE.out, Nat.mul_add, Nat.mul_add]
          omega
        case measure => simp [intOf]; omega
      have ey := hid (show (limbsOf (strVal b)).getD k 0 = 0 by simp [List.getD, List.getElem?_eq_none (by omega : (limbsOf (strVal b)).length ≤ k)])
      obtain ⟨d, hd⟩ : ∃ d : Nat, (d : Int) = (((limbsOf (strVal a))[k] : Int) + 0 + (c' : Int)) % 4294967296 := ⟨(((limbsOf (strVal a))[k] + c') % 4294967296), by omega⟩
      obtain ⟨e, he⟩ : ∃ e : Nat, (e : Int) = (((limbsOf (strVal a))[k] : Int) + 0 + (c' : Int)) / 4294967296 := ⟨(((limbsOf (strVal a))[k] + c') / 4294967296), by omega⟩
      have hde : d + 4294967296 * e = (limbsOf (strVal a))[k] + c' := by omega
      have hd1 : d < 4294967296 := by omega
      have he1 : e ≤ 1 := by omega
      have HA := hid (add32_any ((limbsOf (strVal a))[k] : Int) 0 (c' : Int) wr (by omega) (by omega) (by omega) (by omega) (by omega) (by omega))
      rw [← hd, ← he] at HA
      have HDE := hid hde
      clear hd he hde
      go_wp2_with fail
      refine Calls.mono HA.out ?_
      rintro e' w3 ⟨rfl, rfl⟩
      clear HA
      go_wp2
      go_roundw
      case rel =>
        refine ⟨k + 1, e, ds ++ [d], upd f k (.int .u32 d), by omega, by go_num, rfl, he1, hbw.setCell (by simpa using hbel.size) _, by simpa using hsz, hbw2.setCell (Nat.le_refl _) _, hown.set _ _, upd_snoc HL.out HF.out d, ?_, ?_, ?_⟩
        · show (ds ++ [d]).length = k + 1; simp [HL.out]
        · intro x hx; rcases List.mem_append.1 hx with h | h
          · exact HD.out x h
          simp at h; omega
        show limbsVal (ds ++ [d]) + 4294967296 ^ (k + 1) * e = _
        rw [limbsVal_snoc, HL.out, E1.out, E2.out, ey.out, Nat.pow_succ, Nat.mul_assoc]
        have h1 := HV.out
        have h2 : 4294967296 ^ k * d + 4294967296 ^ k * (4294967296 * e) = 4294967296 ^ k * (limbsOf (strVal a))[k] + 4294967296 ^ k * c' := by rw [← Nat.mul_add, HDE.out, Nat.mul_add]
        omega
      case measure => simp [intOf]; omega
    have hk' : k = (limbsOf (strVal a)).length := by omega
    have hkm : (limbsOf (strVal a)).length < m := by have := HM.out; omega
    have hs : limbsVal (ds ++ [c']) = strVal a + strVal b := by
      have h1 := HV.out
      rw [List.take_of_length_le (by omega), List.take_of_length_le (by omega), va.out, vb.out] at h1
      rw [limbsVal_snoc, HL.out]; omega
    have HR := hid (fun ww (h : Own ww w2.heap.size 208 m (upd f (limbsOf (strVal a)).length (.int .u32 c'))) => text_any _ _ (ds ++ [c']) _ (fun _ h => h) (by simp [HL.out]; have := HM.out; omega) (own_limbs h (by rw [← hk']; exact upd_snoc HL.out HF.out c') (by simp [HL.out]; have := HM.out; omega) (by omega) (by intro x hx; rcases List.mem_append.1 hx with h | h; exact HD.out x h; simp at h; omega)))
    rw [hs] at HR
    have c1 := hown.cell hkm
    rw [HF.out] at c1
    have c2 := hown.frozen (limbsOf (strVal a)).length
    clear hs hk'
    go_wp2_with fail
    refine Calls.mono (HR.out _ (hown.set _ _)) ?_
    rintro e' w3 ⟨rfl, hb3⟩
    go_wp2
    go_ret
    exact ⟨rfl, (hbw.setCell (p := ⟨w2.heap.size, _, none⟩) hbel.size _).step hb3⟩
end Go.Proofs.YtmbahnmhicdjfaaGreatDoor
end
section
/- natural: subtract, Subtract: walked. -/
namespace Go.Proofs.YtmbahnmhicdjfaaGreatDoor
open Go.RowKit
theorem strVal_limbs_len (a : ByteArray) : (limbsOf (strVal a)).length ≤ a.size := Nat.le_trans (limbs_blen _) (natBytes_len_le (strVal_lt a))
set_option maxRecDepth 100000 in
set_option maxHeartbeats 1000000 in
theorem subtract_any (S : Nat → Prop) (u v : Value) (x y : Nat) (w : World) (hS : ∀ b, S b → b < w.heap.size) (hl : (limbsOf x).length ≤ 1000000000000) (hyx : y ≤ x) (hu : rSlice 1 rU32 w S [u] (limbsOf x)) (hv : rSlice 1 rU32 w S [v] (limbsOf y)) :
    Calls Tryz.prog 178 #[u, v] w fun e w' => ∃ r, e = .returned r ∧ rSlice 1 rU32 w' (LT w'.heap.size) [r] (limbsOf (x - y)) ∧ Below w.heap.size w w' := by
  have hxlt := hid (limbsOf_lt x)
  have hylt := hid (limbsOf_lt y)
  have vx := hid (limbsVal_limbsOf x)
  have vy := hid (limbsVal_limbsOf y)
  have hylen : (limbsOf y).length ≤ (limbsOf x).length := by
    rcases Nat.lt_or_ge (limbsOf x).length (limbsOf y).length with h | h
    · have := limbs_len_lt h; omega
    exact h
  obtain ⟨xa, xc, rfl, x1, x2, x3, x4⟩ := u32s_open hu
  obtain ⟨ya, yc, rfl, y1, y2, y3, y4⟩ := u32s_open hv
  generalize limbsOf x = xs at *
  generalize limbsOf y = ys at *
  have hn := len_le x1 x2
  have hmk := fun (w : World) => make_one (P := Tryz.prog) Tryz.underlying206 Tryz.infoU32 rfl w xs.length (by omega) (by omega)
  go_enter Tryz.func178, Tryz.ntmps178
  go_wp2
  clear hmk
  go_loopw [6, 7, 8, 14] (fun c _ _ i wr => ∃ (k c' : Nat) (ds : List Nat) (f : Nat → Value), k ≤ xs.length ∧ i = .int .i64 k ∧ c = .int .u32 (c' : Int) ∧ c' ≤ 1 ∧ Below w.heap.size w wr ∧ w.heap.size < wr.heap.size ∧ Own wr w.heap.size 208 xs.length f ∧ Hid (∀ j, f j = .int .u32 ((ds.getD j 0 : Nat) : Int)) ∧ Hid (ds.length = k) ∧ Hid (∀ x ∈ ds, x < 4294967296) ∧
      Hid (limbsVal ds + limbsVal (ys.take k) = limbsVal (xs.take k) + 4294967296 ^ k * c')) (fun _ _ _ i _ => xs.length - (intOf i).toNat)
  case atStart => exact ⟨0, 0, [], _, Nat.zero_le _, rfl, rfl, by omega, (Below.refl _ _).alloc (Nat.le_refl _) _, by simp, Own.new _ _ _ _, fun j => by simp, rfl, fun x hx => by simp at hx, by simp [Hid, limbsVal]⟩
  case round =>
    obtain ⟨k, c', ds, f, hk, rfl, rfl, hc', hbw, hsz, hown, HF, HL, HD, HV⟩ := hrel
    by_cases hlt : k < xs.length
    · rcases x4 with rfl | ⟨b1, off1, rfl, x4⟩
      · simp at hlt
      obtain ⟨g0, g1⟩ := x4.u32 hlt
      rw [← hbw.cell (p := ⟨b1, off1 + k, none⟩) (hS _ x4.1)] at g0
      have c1 := hown.cell hlt
      rw [HF.out k] at c1
      have c2 := hown.frozen k
      have e1 := take_succ_getD xs k
      have e2 := take_succ_getD ys k
      have ex : xs.getD k 0 = xs[k] := by simp [List.getD, hlt]
      rw [ex] at e1
      have E1 := hid e1
      have E2 := hid e2
      clear e1 e2 ex
      by_cases hy : k < ys.length
      · rcases y4 with rfl | ⟨b2, off2, rfl, y4⟩
        · simp at hy
        obtain ⟨f0, f1⟩ := y4.u32 hy
        rw [← hbw.cell (p := ⟨b2, off2 + k, none⟩) (hS _ y4.1)] at f0
        have ey := hid (show ys.getD k 0 = ys[k] by simp [List.getD, hy])
        obtain ⟨d, hd⟩ : ∃ d : Nat, (d : Int) = ((xs[k] : Int) - (ys[k] : Int) - (c' : Int)) % 4294967296 := ⟨(((xs[k] : Int) - (ys[k] : Int) - (c' : Int)) % 4294967296).toNat, by omega⟩
        obtain ⟨e, he⟩ : ∃ e : Nat, (e : Int) = borrowZ (xs[k] : Int) (ys[k] : Int) (c' : Int) := ⟨(borrowZ (xs[k] : Int) (ys[k] : Int) (c' : Int)).toNat, by have := borrowZ_bd (xs[k] : Int) (ys[k] : Int) (c' : Int); omega⟩
        have hde : d + ys[k] + c' = xs[k] + 4294967296 * e := by unfold borrowZ at he; split at he <;> omega
        have hd1 : d < 4294967296 := by omega
        have he1 : e ≤ 1 := by have := borrowZ_bd (xs[k] : Int) (ys[k] : Int) (c' : Int); omega
        have HA := hid (sub32_any (xs[k] : Int) (ys[k] : Int) (c' : Int) wr (by omega) (by omega) (by omega) (by omega) (by omega) (by omega))
        rw [← hd, ← he] at HA
        have HDE := hid hde
        clear hd he hde
        go_wp2_with fail
        refine Calls.mono HA.out ?_
        rintro e' w3 ⟨rfl, rfl⟩
        clear HA
        go_wp2
        go_roundw
        case rel =>
          refine ⟨k + 1, e, ds ++ [d], upd f k (.int .u32 d), by omega, by go_num, rfl, he1, hbw.setCell (Nat.le_refl _) _, by simpa using hsz, hown.set _ _, upd_snoc HL.out HF.out d, ?_, ?_, ?_⟩
          · show (ds ++ [d]).length = k + 1; simp [HL.out]
          · intro x hx; rcases List.mem_append.1 hx with h | h
            · exact HD.out x h
            simp at h; omega
          show limbsVal (ds ++ [d]) + limbsVal (ys.take (k + 1)) = _
          rw [limbsVal_snoc, HL.out, E1.out, E2.out, ey.out, Nat.pow_succ, Nat.mul_assoc]
          have h1 := HV.out
          have h2 : 4294967296 ^ k * d + 4294967296 ^ k * ys[k] + 4294967296 ^ k * c' = 4294967296 ^ k * xs[k] + 4294967296 ^ k * (4294967296 * e) := by rw [← Nat.mul_add, ← Nat.mul_add, HDE.out, Nat.mul_add]
          omega
        case measure => simp [intOf]; omega
      have ey := hid (show ys.getD k 0 = 0 by simp [List.getD, List.getElem?_eq_none (by omega : ys.length ≤ k)])
      obtain ⟨d, hd⟩ : ∃ d : Nat, (d : Int) = ((xs[k] : Int) - 0 - (c' : Int)) % 4294967296 := ⟨(((xs[k] : Int) - 0 - (c' : Int)) % 4294967296).toNat, by omega⟩
      obtain ⟨e, he⟩ : ∃ e : Nat, (e : Int) = borrowZ (xs[k] : Int) 0 (c' : Int) := ⟨(borrowZ (xs[k] : Int) 0 (c' : Int)).toNat, by have := borrowZ_bd (xs[k] : Int) 0 (c' : Int); omega⟩
      have hde : d + c' = xs[k] + 4294967296 * e := by unfold borrowZ at he; split at he <;> omega
      have hd1 : d < 4294967296 := by omega
      have he1 : e ≤ 1 := by have := borrowZ_bd (xs[k] : Int) 0 (c' : Int); omega
      have HA := hid (sub32_any (xs[k] : Int) 0 (c' : Int) wr (by omega) (by omega) (by omega) (by omega) (by omega) (by omega))
      rw [← hd, ← he] at HA
      have HDE := hid hde
      clear hd he hde
      go_wp2_with fail
      refine Calls.mono HA.out ?_
      rintro e' w3 ⟨rfl, rfl⟩
      clear HA
      go_wp2
      go_roundw
      case rel =>
        refine ⟨k + 1, e, ds ++ [d], upd f k (.int .u32 d), by omega, by go_num, rfl, he1, hbw.setCell (Nat.le_refl _) _, by simpa using hsz, hown.set _ _, upd_snoc HL.out HF.out d, ?_, ?_, ?_⟩
        · show (ds ++ [d]).length = k + 1; simp [HL.out]
        · intro x hx; rcases List.mem_append.1 hx with h | h
          · exact HD.out x h
          simp at h; omega
        show limbsVal (ds ++ [d]) + limbsVal (ys.take (k + 1)) = _
        rw [limbsVal_snoc, HL.out, E1.out, E2.out, ey.out, Nat.pow_succ, Nat.mul_assoc]
        have h1 := HV.out
        have h2 : 4294967296 ^ k * d + 4294967296 ^ k * c' = 4294967296 ^ k * xs[k] + 4294967296 ^ k * (4294967296 * e) := by rw [← Nat.mul_add, HDE.out, Nat.mul_add]
        omega
      case measure => simp [intOf]; omega
    have hk' : k = xs.length := by omega
    have hs : limbsVal ds = x - y := by
      have h1 := HV.out
      rw [List.take_of_length_le (by omega), List.take_of_length_le (by omega), vx.out, vy.out] at h1
      have h2 := limbsVal_lt HD.out
      rw [HL.out] at h2
      have : c' = 0 ∨ c' = 1 := by omega
      rcases this with h | h
      · subst h; omega
      subst h; omega
    have hR := own_limbs hown HF.out (by rw [HL.out, hk']) (by omega) HD.out
    have HT := hid (trim_any _ _ _ _ hR)
    rw [hs] at HT
    clear hs hk' hR
    go_wp2_with fail
    refine Calls.mono HT.out ?_
    rintro e' w3 ⟨r, rfl, rfl, hr⟩
    go_wp2
    go_ret
    exact ⟨_, rfl, hr, hbw⟩
theorem Subtract_ok (a b : ByteArray) (w : World) (ha : a.size ≤ 500000000000) (hb : b.size ≤ 500000000000) (h : strVal b ≤ strVal a) :
    Calls Tryz.prog 146 #[.string a, .string b] w fun e w' => e = .returned (.tuple #[.string (natStr (strVal a - strVal b)), .bool true]) ∧ Below w.heap.size w w' := by
  have H1 := hid (parse_any a w (by omega))
  have la := strVal_limbs_len a
  have hlen : (limbsOf (strVal a - strVal b)).length ≤ 500000000000 := by
    have : strVal a - strVal b < 4294967296 ^ (limbsOf (strVal a)).length := by
      have := limbsVal_lt (limbsOf_lt (strVal a)); rw [limbsVal_limbsOf] at this; omega
    have := limbsOf_len_le this
    omega
  have hcmp : natCmp (strVal a) (strVal b) = 0 ∨ natCmp (strVal a) (strVal b) = 1 := by
    unfold natCmp; rw [if_neg (by omega)]; split <;> simp
  have HV := hid (limbsVal_limbsOf (strVal a - strVal b))
  have HH := hid h
  go_enter Tryz.func146, Tryz.ntmps146
  go_wp2_with fail
  refine Calls.mono H1.out ?_
  rintro e w1 ⟨p, rfl, hp, hb1⟩
  go_wp2_with fail
  refine (parse_any b w1 (by omega)).mono ?_
  rintro e w2 ⟨q, rfl, hq, hb2⟩
  have hp2 := (stays_rSlice stays_rU32).below hp hb2 hb2.size
  clear hp
  have hbel := hb1.step hb2
  go_wp2_with fail
  refine (compare_any _ _ _ _ _ _ (fun _ h => h) hp2 hq).mono ?_
  rintro e w3 ⟨rfl, hb3⟩
  have hp3 := (stays_rSlice stays_rU32).below hp2 hb3 hb3.size
  have hq3 := (stays_rSlice stays_rU32).below hq hb3 hb3.size
  clear hp2 hq
  have hc2 : ¬ natCmp (strVal a) (strVal b) < 0 := by omega
  have HC := hid hcmp
  clear hcmp
  go_wp2_with fail
  refine (subtract_any _ _ _ _ _ _ (fun _ h => h) (by omega) HH.out hp3 hq3).mono ?_
  rintro e w4 ⟨r, rfl, hr, hb4⟩
  go_wp2_with fail
  refine (text_any _ _ _ _ (fun _ h => h) (by omega) hr).mono ?_
  rintro e w5 ⟨rfl, hb5⟩
  rw [HV.out]
  go_wp2
  go_ret2
  exact ⟨rfl, (hbel.step hb3).step (hb4.step hb5)⟩
theorem Subtract_no (a b : ByteArray) (w : World) (ha : a.size ≤ 500000000000) (hb : b.size ≤ 500000000000) (h : strVal a < strVal b) :
    Calls Tryz.prog 146 #[.string a, .string b] w fun e w' => e = .returned (.tuple #[.string ⟨#[]⟩, .bool false]) ∧ Below w.heap.size w w' := by
  have H1 := hid (parse_any a w (by omega))
  have hcmp := natCmp_lt h
  go_enter Tryz.func146, Tryz.ntmps146
  go_wp2_with fail
  refine Calls.mono H1.out ?_
  rintro e w1 ⟨p, rfl, hp, hb1⟩
  go_wp2_with fail
  refine (parse_any b w1 (by omega)).mono ?_
  rintro e w2 ⟨q, rfl, hq, hb2⟩
  have hp2 := (stays_rSlice stays_rU32).below hp hb2 hb2.size
  clear hp
  have hbel := hb1.step hb2
  go_wp2_with fail
  refine (compare_any _ _ _ _ _ _ (fun _ h => h) hp2 hq).mono ?_
  rintro e w3 ⟨rfl, hb3⟩
  rw [hcmp]
  clear hp2 hq hcmp
  go_wp2
  go_ret2
  exact ⟨rfl, hbel.step hb3⟩
end Go.Proofs.YtmbahnmhicdjfaaGreatDoor
end
