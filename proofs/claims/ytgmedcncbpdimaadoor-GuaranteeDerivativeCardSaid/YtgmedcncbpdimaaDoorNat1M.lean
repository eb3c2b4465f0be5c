/- natural: Normalize, trim, parse, text: walked. -/
import Derived.Test.YtgmedcncbpdimaaDoorProg
import Derived.Test.YtgmedcncbpdimaaDoorBaseM
import Derived.Deep.QuietTactic
import Derived.BigQuiet
import Derived.BigRegion
import Derived.Outline
set_option linter.unusedVariables false
set_option linter.unusedSimpArgs false
section
/- natural: Normalize, trim, parse, text: walked. -/
namespace Go.Proofs.YtgmedcncbpdimaaDoor
open Go.RowKit


def strSz : Value → Nat | .string u => u.size | _ => 0

theorem natStr_strVal {s : ByteArray} (h : ∀ (h : 0 < s.size), s[0] ≠ 0) : natStr (strVal s) = s := by
  unfold natStr strVal
  rw [natBytes_val]
  intro hne
  have h0 : 0 < s.size := by
    rcases Nat.eq_zero_or_pos s.size with h0 | h0
    · exfalso; apply hne; exact List.eq_nil_of_length_eq_zero (Array.length_toList.trans h0)
    · exact h0
  have := h h0
  rw [List.head_eq_getElem]
  exact this

theorem ext_ext (s : ByteArray) (k : Nat) (h : k < s.size) : (s.extract k s.size).extract 1 (s.size - k) = s.extract (k + 1) s.size := by
  apply ByteArray.ext
  simp only [ByteArray.data_extract, Array.extract_extract]
  have : s.data.size = s.size := rfl
  congr 1
  omega
theorem ext_get0 (s : ByteArray) (k : Nat) (h : k < s.size) : (s.extract k s.size)[0]'(by simp; omega) = s[k] := by
  simp [ByteArray.getElem_eq_getElem_data]

theorem strVal_ext (s : ByteArray) (k : Nat) (h : k < s.size) : strVal (s.extract k s.size) = s[k].toNat * 256 ^ (s.size - (k + 1)) + strVal (s.extract (k + 1) s.size) := by
  have e : (s.extract k s.size).data.toList = s[k] :: (s.extract (k + 1) s.size).data.toList := by
    simp only [ByteArray.data_extract, Array.toList_extract, List.extract_eq_take_drop]
    have h1 : s.data.size = s.size := rfl
    rw [List.drop_eq_getElem_cons (by simpa [h1] using h)]
    rw [show s.size - k = (s.size - (k + 1)) + 1 by omega, List.take_succ_cons]
    rfl
  unfold strVal
  rw [e, bytesVal_cons]
  congr 3
  simp

set_option maxHeartbeats 400000 in
theorem trimLeftByte_any (s : ByteArray) (w : World) (hs : s.size ≤ maxLen) :
    Calls Tryd.prog 104 #[.string s, .int .u8 0] w fun e w' => e = .returned (.string (natStr (strVal s))) ∧ w = w' := by
  unfold maxLen at hs
  go_enter Tryd.func104, Tryd.ntmps104
  go_wp2
  go_loop [0] (fun t => ∃ k : Nat, k ≤ s.size ∧ t = .string (s.extract k s.size) ∧ Hid (strVal (s.extract k s.size) = strVal s)) (fun t => strSz t)
  case atStart => exact ⟨0, Nat.zero_le _, by simp, by simp [Hid]⟩
  case round =>
    obtain ⟨k, hk, rfl, HE⟩ := hrel
    by_cases hlt : k < s.size
    · have e0 := hid (ext_get0 s k hlt)
      by_cases hz : s[k] = 0
      · have hz' : (((s.extract k s.size)[0]'(by simp; omega)).toNat == 0) = true := by rw [e0.out, hz]; rfl
        have HZ := hid hz
        clear hz
        go_wp2
        go_round
        case rel =>
          refine ⟨k + 1, by omega, by rw [ext_ext s k hlt], ?_⟩
          have := strVal_ext s k hlt
          rw [HZ.out] at this
          rw [← HE.out, this]
          simp [Hid]
        case measure => simp [strSz, ByteArray.size_extract]; omega
      · have hz' : (((s.extract k s.size)[0]'(by simp; omega)).toNat == 0) = false := by
          rw [e0.out]
          simp only [beq_eq_false_iff_ne]
          intro h; apply hz; exact UInt8.toNat_inj.1 (by simpa using h)
        have hR : Hid (natStr (strVal s) = s.extract k s.size) := by
          rw [← HE.out]
          exact natStr_strVal fun h => by rw [ext_get0 s k hlt]; exact hz
        clear hz
        go_wp2
        go_ret
        exact ⟨ret_str hR.out.symm, rfl⟩
    · have hR : Hid (natStr (strVal s) = s.extract k s.size) := by
        rw [← HE.out]
        exact natStr_strVal fun h => by simp at h; omega
      go_wp2
      go_ret
      exact ⟨ret_str hR.out.symm, rfl⟩

end Go.Proofs.YtgmedcncbpdimaaDoor
end
section
/- natural: Normalize, trim: walked. -/
namespace Go.Proofs.YtgmedcncbpdimaaDoor
open Go.RowKit

theorem strVal_empty {s : ByteArray} (h : s.size = 0) : strVal s = 0 := by
  have : s.data.toList = [] := List.eq_nil_of_length_eq_zero (Array.length_toList.trans h)
  unfold strVal; rw [this]; rfl
theorem natStr_zero : natStr 0 = ByteArray.empty := by unfold natStr; rw [natBytes_zero]; rfl
theorem ba_empty {s : ByteArray} (h : s.size = 0) : s = ByteArray.empty := by
  apply ByteArray.ext
  exact Array.eq_empty_of_size_eq_zero h

set_option maxRecDepth 100000 in
set_option maxHeartbeats 400000 in
theorem trimLeft_any (s : ByteArray) (w : World) (hs : s.size ≤ maxLen) :
    Calls Tryd.prog 96 #[.string s, .string ⟨#[0]⟩] w fun e w' => e = .returned (.string (natStr (strVal s))) ∧ w = w' := by
  have hc := trimLeftByte_any s w hs
  have HC := hid hc
  clear hc
  by_cases h0 : s.size = 0
  · have h1 : s.data.toList = [] := List.eq_nil_of_length_eq_zero (Array.length_toList.trans h0)
    have h2 : s.data.toList.isEmpty = true := by rw [h1]; rfl
    have hR : Hid (natStr (strVal s) = s) := by rw [strVal_empty h0, natStr_zero, ba_empty h0]; rfl
    have h3 := ba_empty h0
    subst h3
    clear h0 h1 h2
    go_enter Tryd.func96, Tryd.ntmps96
    go_wp2
    go_ret
    exact ⟨ret_str hR.out.symm, rfl⟩
  · have h2 : (s.data.toList == []) = false := by
      rw [beq_eq_false_iff_ne]; intro h; apply h0; have := congrArg List.length h; rw [Array.length_toList] at this; exact this
    have h3 : s.data.toList.isEmpty = false := by
      rw [List.isEmpty_eq_false_iff]; intro h; apply h0; have := congrArg List.length h; rw [Array.length_toList] at this; exact this
    have h4 : s.toList.isEmpty = false := by rw [ByteArray.toList_eq]; exact h3
    clear h0
    go_enter Tryd.func96, Tryd.ntmps96
    go_wp2_with fail
    have e : (((⟨#[0]⟩ : ByteArray)[0]'(by decide)).toNat : Int) = 0 := by rfl
    rw [e]
    refine Calls.mono HC.out ?_
    rintro e w1 ⟨rfl, rfl⟩
    go_wp2
    go_ret
    exact ⟨rfl, rfl⟩

theorem normalize_any (s : ByteArray) (w : World) (hs : s.size ≤ maxLen) :
    Calls Tryd.prog 74 #[.string s] w fun e w' => e = .returned (.string (natStr (strVal s))) ∧ w = w' := by
  have hc := trimLeft_any s w hs
  have HC := hid hc
  clear hc
  go_enter Tryd.func74, Tryd.ntmps74
  go_wp2_with fail
  refine Calls.mono HC.out ?_
  rintro e w1 ⟨rfl, rfl⟩
  go_wp2
  go_ret
  exact ⟨rfl, rfl⟩

/-! ### trim -/

theorem limbsVal_trim {xs : List Nat} (k : Nat) (h : ∀ j (hj : j < xs.length), k ≤ j → xs[j] = 0) : limbsVal (xs.take k) = limbsVal xs := by
  have e : xs = xs.take k ++ List.replicate (xs.length - k) 0 := by
    apply List.ext_getElem
    · simp; omega
    · intro i h1 h2
      by_cases hi : i < k
      · rw [List.getElem_append_left (by simp; omega), List.getElem_take]
      · rw [List.getElem_append_right (by simp; omega), List.getElem_replicate, h i h1 (by omega)]
  conv => rhs; rw [e]
  rw [limbsVal_append, limbsVal_zeros]; simp

theorem limbsOf_take {xs : List Nat} (hx : ∀ x ∈ xs, x < 4294967296) (k : Nat) (hk : k ≤ xs.length) (h : ∀ j (hj : j < xs.length), k ≤ j → xs[j] = 0) (hl : ∀ (h0 : 0 < k), xs[k - 1]'(by omega) ≠ 0) :
    limbsOf (limbsVal xs) = xs.take k := by
  rw [← limbsVal_trim k h]
  apply limbsOf_val
  · intro x hx'; exact hx x (List.mem_of_mem_take hx')
  · intro hne
    rw [List.getLast_eq_getElem, List.getElem_take]
    have hlen : (xs.take k).length = k := by simp; omega
    have hk0 : 0 < k := by
      rcases Nat.eq_zero_or_pos k with h0 | h0
      · subst h0; simp at hne
      · exact h0
    simp only [hlen]
    exact hl hk0

theorem u32s_open {w : World} {S : Nat → Prop} {v : Value} {l : List Nat} (hv : rSlice 1 rU32 w S [v] l) :
    ∃ a cap, v = .slice a l.length cap ∧ l.length ≤ cap ∧ cap ≤ maxLen ∧ (a = none → cap = 0) ∧ (l = [] ∨ ∃ b off, a = some ⟨b, off, none⟩ ∧ rAt 1 rU32 w S b off l) := by
  obtain ⟨a, cap, hv, h1, h2, h3, h4⟩ := hv
  simp only [List.cons.injEq, and_true] at hv
  exact ⟨a, cap, hv, h1, h2, h3, h4⟩
theorem rAt.take {α : Type} {sz : Nat} {R : CRep α} {w : World} {S : Nat → Prop} {b off : Nat} {l : List α} (h : rAt sz R w S b off l) (k : Nat) : rAt sz R w S b off (l.take k) := by
  refine ⟨h.1, fun j hj => ?_⟩
  have hj' : j < l.length := by simp at hj; omega
  obtain ⟨cs, h1, h2, h3⟩ := h.2 j hj'
  exact ⟨cs, h1, h2, by rw [List.getElem_take]; exact h3⟩
theorem u32s_lt {w : World} {S : Nat → Prop} {v : Value} {l : List Nat} (hv : rSlice 1 rU32 w S [v] l) : ∀ x ∈ l, x < 4294967296 := by
  obtain ⟨a, cap, _, _, _, _, h4⟩ := hv
  intro x hx
  rcases h4 with rfl | ⟨b, off, _, h4⟩
  · simp at hx
  · obtain ⟨j, hj, rfl⟩ := List.getElem_of_mem hx
    exact (h4.u32 hj).2

set_option maxRecDepth 100000 in
set_option maxHeartbeats 400000 in
theorem trim_any (S : Nat → Prop) (v : Value) (xs : List Nat) (w : World) (hv : rSlice 1 rU32 w S [v] xs) :
    Calls Tryd.prog 98 #[v] w fun e w' => ∃ u, e = .returned u ∧ w = w' ∧ rSlice 1 rU32 w S [u] (limbsOf (limbsVal xs)) := by
  have hlt := hid (u32s_lt hv)
  obtain ⟨a, cap, rfl, h1, h2, h3, h4⟩ := u32s_open hv
  have hn := len_le h1 h2
  have hcap : cap ≤ 9223372036854775807 := by unfold maxLen at h2; omega
  go_enter Tryd.func98, Tryd.ntmps98
  go_wp2
  go_loop [3] (fun i => ∃ k : Nat, k ≤ xs.length ∧ i = .int .i64 k ∧ Hid (∀ j (hj : j < xs.length), k ≤ j → xs[j] = 0)) (fun i => (intOf i).toNat)
  case atStart => exact ⟨xs.length, Nat.le_refl _, rfl, fun j hj h => by omega⟩
  case round =>
    obtain ⟨k, hk, rfl, HE⟩ := hrel
    cases k with
    | zero =>
      have e := limbsOf_take hlt.out 0 (by omega) HE.out (fun h => by omega)
      rw [List.take_zero] at e
      have E := hid e
      clear e
      go_wp2
      go_ret
      refine ⟨_, rfl, rfl, ?_⟩
      rw [E.out]
      exact ⟨a, cap, rfl, by simp, h2, h3, .inl rfl⟩
    | succ k =>
      rcases h4 with rfl | ⟨b, off, rfl, h4⟩
      · simp at hk
      have g0 := (h4.u32 (j := k) (by omega)).1
      have ei : ((k + 1 : Nat) : Int) - 1 = (k : Int) := by omega
      by_cases hz : xs[k] = 0
      · have hz' : ((xs[k] : Int) == 0) = true := by simp [hz]
        have HZ := hid hz
        clear hz
        go_wp2
        go_round
        case rel =>
          refine ⟨k, by omega, rfl, fun j hj hkj => ?_⟩
          by_cases hjk : j = k
          · subst hjk; exact HZ.out
          · exact HE.out j hj (by omega)
        case measure => simp [intOf]
      · have hz' : ((xs[k] : Int) == 0) = false := by simpa using hz
        have E := hid (limbsOf_take hlt.out (k + 1) hk HE.out (fun _ => hz))
        clear hz
        go_wp2
        go_ret
        refine ⟨_, rfl, rfl, ?_⟩
        rw [E.out]
        exact ⟨some ⟨b, off, none⟩, cap, by simp; omega, by simp; omega, h2, by simp, .inr ⟨b, off, rfl, h4.take _⟩⟩

end Go.Proofs.YtgmedcncbpdimaaDoor
end
section
/- Digits in base 256 and 2^32, plain. -/
namespace Go.Proofs.YtgmedcncbpdimaaDoor

theorem pow256 (q r : Nat) : 256 ^ (4 * q + r) = 4294967296 ^ q * 256 ^ r := by
  rw [Nat.pow_add, Nat.pow_mul]

theorem byteAt (l : List UInt8) (k : Nat) (h : k < l.length) : bytesVal l / 256 ^ k % 256 = (l[l.length - 1 - k]'(by omega)).toNat := by
  have e : l = l.take (l.length - 1 - k) ++ l[l.length - 1 - k]'(by omega) :: l.drop (l.length - k) := by
    conv => lhs; rw [← List.take_append_drop (l.length - 1 - k) l]
    rw [List.drop_eq_getElem_cons (by omega), show l.length - 1 - k + 1 = l.length - k by omega]
  have hd : (l.drop (l.length - k)).length = k := by simp; omega
  have h1 := bytesVal_lt (l.drop (l.length - k))
  rw [hd] at h1
  have e2 : bytesVal l = (bytesVal (l.take (l.length - 1 - k)) * 256 + (l[l.length - 1 - k]'(by omega)).toNat) * 256 ^ k + bytesVal (l.drop (l.length - k)) := by
    conv => lhs; rw [e]
    rw [bytesVal_append, bytesVal_cons, List.length_cons, hd, Nat.pow_succ, Nat.add_mul, Nat.mul_assoc, Nat.mul_comm 256]
    omega
  have hb := (l[l.length - 1 - k]'(by omega)).toNat_lt
  rw [e2, Nat.mul_comm _ (256 ^ k), Nat.mul_add_div (Nat.pow_pos (by decide)), Nat.div_eq_of_lt h1]
  omega

theorem mod_succ256 (V k : Nat) : V % 256 ^ (k + 1) = V % 256 ^ k + 256 ^ k * (V / 256 ^ k % 256) := by
  rw [Nat.pow_succ, Nat.mod_mul]

theorem dig_eq (V q r : Nat) (hr : r < 4) : V % 256 ^ (4 * q + r + 1) / 4294967296 ^ q % 4294967296 = V / 256 ^ (4 * q + r) % 256 * 256 ^ r + V % 256 ^ (4 * q + r) / 4294967296 ^ q ∧
    V % 256 ^ (4 * q + r) / 4294967296 ^ q < 256 ^ r ∧ V % 256 ^ (4 * q + r) / 4294967296 ^ q % 4294967296 = V % 256 ^ (4 * q + r) / 4294967296 ^ q := by
  have hb : V / 256 ^ (4 * q + r) % 256 < 256 := Nat.mod_lt _ (by decide)
  have hu : V % 256 ^ (4 * q + r) / 4294967296 ^ q < 256 ^ r := by
    apply Nat.div_lt_of_lt_mul
    rw [← pow256]
    exact Nat.mod_lt _ (Nat.pow_pos (by decide))
  have hr4 : 256 ^ r * 256 ≤ 4294967296 := by
    rw [← Nat.pow_succ]
    exact Nat.pow_le_pow_right (by decide) (by omega : r + 1 ≤ 4)
  have hle : 256 ^ r ≤ 4294967296 := Nat.le_trans (Nat.le_mul_of_pos_right _ (by decide)) hr4
  refine ⟨?_, hu, Nat.mod_eq_of_lt (Nat.lt_of_lt_of_le hu hle)⟩
  rw [mod_succ256, pow256 q r]
  rw [← pow256 q r] 
  generalize hB : V / 256 ^ (4 * q + r) % 256 = B at *
  generalize V % 256 ^ (4 * q + r) = U at *
  rw [pow256, Nat.mul_assoc, Nat.add_comm U, Nat.mul_add_div (ww_pos q), Nat.mul_comm (256 ^ r)]
  apply Nat.mod_eq_of_lt
  have h1 : (B + 1) * 256 ^ r ≤ 256 * 256 ^ r := Nat.mul_le_mul_right _ hb
  rw [Nat.add_mul] at h1
  omega

theorem dig_lt (V q r j : Nat) (hj : j < q) : V % 256 ^ (4 * q + r + 1) / 4294967296 ^ j % 4294967296 = V % 256 ^ (4 * q + r) / 4294967296 ^ j % 4294967296 := by
  rw [mod_succ256]
  generalize V / 256 ^ (4 * q + r) % 256 = B
  generalize V % 256 ^ (4 * q + r) = U
  have e : 256 ^ (4 * q + r) = 4294967296 ^ j * (4294967296 * (4294967296 ^ (q - j - 1) * 256 ^ r)) := by
    rw [pow256, ← Nat.mul_assoc 4294967296, ← Nat.pow_succ', ← Nat.mul_assoc, ← Nat.pow_add, show j + (q - j - 1 + 1) = q by omega]
  rw [e, Nat.mul_assoc, Nat.add_comm U, Nat.mul_add_div (ww_pos j), Nat.mul_assoc, Nat.mul_add_mod]

theorem dig_gt (V q r j : Nat) (hr : r < 4) (hj : q < j) : V % 256 ^ (4 * q + r + 1) / 4294967296 ^ j % 4294967296 = V % 256 ^ (4 * q + r) / 4294967296 ^ j % 4294967296 := by
  have h1 : 256 ^ (4 * q + r + 1) ≤ 4294967296 ^ j := by
    have : (4294967296 : Nat) ^ j = 256 ^ (4 * j) := by rw [Nat.pow_mul]
    rw [this]; exact Nat.pow_le_pow_right (by decide) (by omega)
  have h2 : 256 ^ (4 * q + r) ≤ 4294967296 ^ j := Nat.le_trans (Nat.pow_le_pow_right (by decide) (by omega)) h1
  rw [Nat.div_eq_of_lt (Nat.lt_of_lt_of_le (Nat.mod_lt _ (Nat.pow_pos (by decide))) h1), Nat.div_eq_of_lt (Nat.lt_of_lt_of_le (Nat.mod_lt _ (Nat.pow_pos (by decide))) h2)]

theorem or_add (x b t : Nat) (hx : x < 2 ^ t) : x ||| b * 2 ^ t = b * 2 ^ t + x := by
  rw [Nat.or_comm, ← Nat.shiftLeft_eq, ← Nat.shiftLeft_add_eq_or_of_lt hx]

end Go.Proofs.YtgmedcncbpdimaaDoor
end
section
/- natural.parse: walked. -/
namespace Go.Proofs.YtgmedcncbpdimaaDoor
open Go.RowKit
theorem Tryd.infoU32 : (Tryd.prog.info? 85).map (fun i => (i.zero, i.size, i.bytes)) = some (some (.int .u32 0), 1, 4) := by kernel_rfl

theorem parse_or (x b t c : Nat) (hc : c = 2 ^ t) (ht : t ≤ 24) (hx : x < c) (hb : b * c < 4294967296) (y : Int) (hy : y = ((b * c : Nat) : Int)) : bits .or .u32 (x : Int) y = ((b * c + x : Nat) : Int) := by
  have h24 : c ≤ 2 ^ 24 := by rw [hc]; exact Nat.pow_le_pow_right (by decide) ht
  rw [hy, u32_or_nat _ _ (by omega) hb, hc, or_add x b t (by omega)]

theorem parse_step (V k q r x b c : Nat) (hc : c = 256 ^ r) (hr : r < 4) (hkq : k = 4 * q + r) (hx : x = V % 256 ^ k / 4294967296 ^ q % 4294967296) (hb : b = V / 256 ^ k % 256) :
    x < c ∧ b * c < 4294967296 ∧ b < 256 ∧ b * c + x = V % 256 ^ (k + 1) / 4294967296 ^ q % 4294967296 := by
  subst hkq hc
  obtain ⟨h1, h2, h3⟩ := dig_eq V q r hr
  rw [h3] at hx
  rw [← hb] at h1
  have hlt : b < 256 := by rw [hb]; exact Nat.mod_lt _ (by decide)
  refine ⟨by rw [hx]; exact h2, ?_, hlt, by rw [h1, hx]⟩
  have hr4 : 256 ^ r * 256 ≤ 4294967296 := by
    rw [← Nat.pow_succ]
    exact Nat.pow_le_pow_right (by decide) (by omega : r + 1 ≤ 4)
  have h4 : (b + 1) * 256 ^ r ≤ 256 * 256 ^ r := Nat.mul_le_mul_right _ hlt
  rw [Nat.add_mul] at h4
  have : 0 < 256 ^ r := Nat.pow_pos (by decide)
  omega

theorem parse_other (V k q j : Nat) (hq : q = k / 4) (hj : j ≠ q) : V % 256 ^ (k + 1) / 4294967296 ^ j % 4294967296 = V % 256 ^ k / 4294967296 ^ j % 4294967296 := by
  obtain ⟨r, hr, hk⟩ : ∃ r, r < 4 ∧ k = 4 * q + r := ⟨k % 4, by omega, by omega⟩
  subst hk
  rcases Nat.lt_or_gt_of_ne hj with h | h
  · exact dig_lt V q r j h
  · exact dig_gt V q r j hr h

set_option maxRecDepth 100000 in
set_option maxHeartbeats 1000000 in
theorem parse_any (s : ByteArray) (w : World) (hs : s.size ≤ 1000000000000) :
    Calls Tryd.prog 77 #[.string s] w fun e w' => ∃ u, e = .returned u ∧ rSlice 1 rU32 w' (LT w'.heap.size) [u] (limbsOf (strVal s)) ∧ Below w.heap.size w w' := by
  obtain ⟨m, hm⟩ : ∃ m : Nat, m = (s.size + 3) / 4 := ⟨_, rfl⟩
  have hm1 : ((s.size : Int) + 4 - 1) / 4 = (m : Int) := by omega
  have hmk := fun (w : World) => make_one (P := Tryd.prog) Tryd.underlying83 Tryd.infoU32 rfl w m (by omega) (by omega)
  have hn : s.size ≤ 9223372036854775807 := by omega
  have HM := hid hm
  clear hm
  go_enter Tryd.func77, Tryd.ntmps77
  go_wp2
  clear hmk
  go_loopw [4, 13] (fun _ i wr => ∃ (k : Nat) (f : Nat → Value), k ≤ s.size ∧ i = .int .i64 k ∧ Below w.heap.size w wr ∧ Own wr w.heap.size 85 m f ∧ Hid (∀ j, j < m → f j = .int .u32 ((strVal s % 256 ^ k / 4294967296 ^ j % 4294967296 : Nat) : Int))) (fun _ i _ => s.size - (intOf i).toNat)
  case atStart => exact ⟨0, _, Nat.zero_le _, rfl, (Below.refl _ _).alloc (Nat.le_refl _) _, Own.new _ _ _ _, fun j _ => by simp [Nat.mod_one]⟩
  case round =>
    obtain ⟨k, f, hk, rfl, hbel, hown, HF⟩ := hrel
    by_cases hlt : k < s.size
    · obtain ⟨q, hq⟩ : ∃ q : Nat, q = k / 4 := ⟨_, rfl⟩
      have hq1 : ((k : Int) / 4) = (q : Int) := by omega
      have hqm : q < m := by have := HM.out; omega
      have c1 := hown.cell hqm
      rw [HF.out q hqm] at c1
      obtain ⟨x, hx⟩ : ∃ x : Nat, x = strVal s % 256 ^ k / 4294967296 ^ q % 4294967296 := ⟨_, rfl⟩
      rw [← hx] at c1
      have c2 := hown.frozen q
      have HQ := hid hq
      have HX := hid hx
      clear hq hx
      have d1 : (s.size : Int) - 1 - k = ((s.size - 1 - k : Nat) : Int) := by omega
      have d2 : s.size - 1 - k < s.size := by omega
      have hb : strVal s / 256 ^ k % 256 = (s[s.size - 1 - k]'d2).toNat := byteAt s.data.toList k hlt
      have Hb := hid hb
      have hr : k % 4 = 0 ∨ k % 4 = 1 ∨ k % 4 = 2 ∨ k % 4 = 3 := by omega
      rcases hr with hr | hr | hr | hr
      · have hr1 : ((k : Int) % 4) = 0 := by omega
        have HP := hid (parse_step (strVal s) k q 0 x _ 1 (by decide) (by omega) (by have := HQ.out; omega) HX.out hb.symm)
        clear hb
        go_wp2
        go_region
        go_wp2
        go_roundw
        case rel =>
          refine ⟨k + 1, upd f q _, by omega, by go_num, (hbel.setCell (Nat.le_refl _) _).drew, (hown.set _ _).drew, fun j hj => ?_⟩
          unfold upd
          by_cases hjq : j = q
          · rw [if_pos hjq, hjq, ← HP.out.2.2.2, parse_or x s[s.size - 1 - k].toNat 0 1 (by decide) (by omega) HP.out.1 HP.out.2.1 _ (by have := HP.out.2.2.1; omega)]
          · rw [if_neg hjq, parse_other _ k q j HQ.out hjq]; exact HF.out j hj
        case measure => simp [intOf]; omega
      · have hr1 : ((k : Int) % 4) = 1 := by omega
        have HP := hid (parse_step (strVal s) k q 1 x _ 256 (by decide) (by omega) (by have := HQ.out; omega) HX.out hb.symm)
        clear hb
        go_wp2
        go_region
        go_wp2
        go_roundw
        case rel =>
          refine ⟨k + 1, upd f q _, by omega, by go_num, (hbel.setCell (Nat.le_refl _) _).drew, (hown.set _ _).drew, fun j hj => ?_⟩
          unfold upd
          by_cases hjq : j = q
          · rw [if_pos hjq, hjq, ← HP.out.2.2.2, parse_or x s[s.size - 1 - k].toNat 8 256 (by decide) (by omega) HP.out.1 HP.out.2.1 _ (by have := HP.out.2.2.1; omega)]
          · rw [if_neg hjq, parse_other _ k q j HQ.out hjq]; exact HF.out j hj
        case measure => simp [intOf]; omega
      · have hr1 : ((k : Int) % 4) = 2 := by omega
        have HP := hid (parse_step (strVal s) k q 2 x _ 65536 (by decide) (by omega) (by have := HQ.out; omega) HX.out hb.symm)
        clear hb
        go_wp2
        go_region
        go_wp2
        go_roundw
        case rel =>
          refine ⟨k + 1, upd f q _, by omega, by go_num, (hbel.setCell (Nat.le_refl _) _).drew, (hown.set _ _).drew, fun j hj => ?_⟩
          unfold upd
          by_cases hjq : j = q
          · rw [if_pos hjq, hjq, ← HP.out.2.2.2, parse_or x s[s.size - 1 - k].toNat 16 65536 (by decide) (by omega) HP.out.1 HP.out.2.1 _ (by have := HP.out.2.2.1; omega)]
          · rw [if_neg hjq, parse_other _ k q j HQ.out hjq]; exact HF.out j hj
        case measure => simp [intOf]; omega
      · have hr1 : ((k : Int) % 4) = 3 := by omega
        have HP := hid (parse_step (strVal s) k q 3 x _ 16777216 (by decide) (by omega) (by have := HQ.out; omega) HX.out hb.symm)
        clear hb
        go_wp2
        go_region
        go_wp2
        go_roundw
        case rel =>
          refine ⟨k + 1, upd f q _, by omega, by go_num, (hbel.setCell (Nat.le_refl _) _).drew, (hown.set _ _).drew, fun j hj => ?_⟩
          unfold upd
          by_cases hjq : j = q
          · rw [if_pos hjq, hjq, ← HP.out.2.2.2, parse_or x s[s.size - 1 - k].toNat 24 16777216 (by decide) (by omega) HP.out.1 HP.out.2.1 _ (by have := HP.out.2.2.1; omega)]
          · rw [if_neg hjq, parse_other _ k q j HQ.out hjq]; exact HF.out j hj
        case measure => simp [intOf]; omega
    · have hR : rSlice 1 rU32 wr (LT wr.heap.size) [.slice (some ⟨w.heap.size, 0, none⟩) m m] (limbsFix m (strVal s)) := by
        refine hown.reads (limbsFix_len _ _) (by unfold maxLen; have := HM.out; omega) fun j hj => ?_
        rw [limbsFix_len] at hj
        have hk' : k = s.size := by omega
        have e : strVal s % 256 ^ k = strVal s := Nat.mod_eq_of_lt (by rw [hk']; exact strVal_lt s)
        rw [HF.out j hj, e]
        have g := limbsFix_get m (strVal s) j hj
        rw [List.getElem?_eq_getElem (by rw [limbsFix_len]; exact hj)] at g
        rw [Option.some.inj g]
        exact ⟨rfl, Nat.mod_lt _ (by decide)⟩
      have hV : limbsVal (limbsFix m (strVal s)) = strVal s := by
        rw [limbsFix_val]
        apply Nat.mod_eq_of_lt
        have h1 := strVal_lt s
        have h2 : 256 ^ s.size ≤ 4294967296 ^ m := by
          have : (4294967296 : Nat) ^ m = 256 ^ (4 * m) := by rw [Nat.pow_mul]
          rw [this]; exact Nat.pow_le_pow_right (by decide) (by have := HM.out; omega)
        omega
      have HT := hid (trim_any _ _ _ _ hR)
      rw [hV] at HT
      clear hR hV
      go_wp2_with fail
      refine Calls.mono HT.out ?_
      rintro e w2 ⟨u, rfl, rfl, hu⟩
      go_wp2
      go_ret
      exact ⟨_, rfl, hu, hbel⟩

end Go.Proofs.YtgmedcncbpdimaaDoor
end
