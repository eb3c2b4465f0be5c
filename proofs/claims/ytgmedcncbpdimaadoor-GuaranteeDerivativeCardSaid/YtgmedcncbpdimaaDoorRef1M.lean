/- insolvencyref1: Normalize, strip, limbs: walked. -/
import Derived.Test.YtgmedcncbpdimaaDoorNat1M
import Derived.Test.YtgmedcncbpdimaaDoorNat5M
set_option linter.unusedVariables false
set_option linter.unusedSimpArgs false
/- insolvencyref1: Normalize, strip, limbs: walked. -/
namespace Go.Proofs.YtgmedcncbpdimaaDoor
open Go.RowKit
set_option maxRecDepth 100000 in
set_option maxHeartbeats 400000 in
theorem rNormalize_any (s : ByteArray) (w : World) (hs : s.size ≤ maxLen) :
    Calls Tryd.prog 89 #[.string s] w fun e w' => e = .returned (.string (natStr (strVal s))) ∧ w = w' := by
  unfold maxLen at hs
  go_enter Tryd.func89, Tryd.ntmps89
  go_wp2
  go_loop [3] (fun t => ∃ k : Nat, k ≤ s.size ∧ t = .int .i64 k ∧ Hid (strVal (s.extract k s.size) = strVal s)) (fun t => s.size - (intOf t).toNat)
  case atStart => exact ⟨0, Nat.zero_le _, rfl, by simp [Hid]⟩
  case round =>
    obtain ⟨k, hk, rfl, HE⟩ := hrel
    by_cases hlt : k < s.size
    · by_cases hz : s[k] = 0
      · have hz' : ((s[k]'hlt).toNat == 0) = true := by rw [hz]; rfl
        have HZ := hid hz
        clear hz
        go_wp2
        go_round
        case rel =>
          refine ⟨k + 1, by omega, by go_num, ?_⟩
          have := strVal_ext s k hlt
          rw [HZ.out] at this
          rw [← HE.out, this]
          simp [Hid]
        case measure => simp [intOf]; omega
      · have hz' : ((s[k]'hlt).toNat == 0) = false := by
          simp only [beq_eq_false_iff_ne]
          intro h; apply hz; exact UInt8.toNat_inj.1 (by simpa using h)
        have hR : Hid (natStr (strVal s) = s.extract k s.size) := by
          rw [← HE.out]
          exact natStr_strVal fun h => by rw [ext_get0 s k hlt]; exact hz
        clear hz
        go_wp2
        go_ret
        exact ⟨ret_str hR.out.symm, rfl⟩
    · have hR : Hid (natStr (strVal s) = s.extract k s.size) := by
        rw [← HE.out]
        exact natStr_strVal fun h => by simp at h; omega
      go_wp2
      go_ret
      exact ⟨ret_str hR.out.symm, rfl⟩

theorem natStr_strVal_size' (s : ByteArray) : (natStr (strVal s)).size ≤ s.size := by rw [natStr_size]; exact natBytes_len_le (strVal_lt s)

set_option maxRecDepth 100000 in
set_option maxHeartbeats 400000 in
theorem strip_any (S : Nat → Prop) (v : Value) (xs : List Nat) (w : World) (hv : rSlice 1 rU32 w S [v] xs) :
    Calls Tryd.prog 88 #[v] w fun e w' => ∃ u, e = .returned u ∧ w = w' ∧ rSlice 1 rU32 w S [u] (limbsOf (limbsVal xs)) := by
  have hlt := hid (u32s_lt hv)
  obtain ⟨a, cap, rfl, h1, h2, h3, h4⟩ := u32s_open hv
  have hn := len_le h1 h2
  have hcap : cap ≤ 9223372036854775807 := by unfold maxLen at h2; omega
  go_enter Tryd.func88, Tryd.ntmps88
  go_wp2
  go_loop [3] (fun i => ∃ k : Nat, k ≤ xs.length ∧ i = .int .i64 k ∧ Hid (∀ j (hj : j < xs.length), k ≤ j → xs[j] = 0)) (fun i => (intOf i).toNat)
  case atStart => exact ⟨xs.length, Nat.le_refl _, rfl, fun j hj h => by omega⟩
  case round =>
    obtain ⟨k, hk, rfl, HE⟩ := hrel
    cases k with
    | zero =>
      have e := limbsOf_take hlt.out 0 (by omega) HE.out (fun h => by omega)
      rw [List.take_zero] at e
      have E := hid e
      clear e
      go_wp2
      go_ret
      refine ⟨_, rfl, rfl, ?_⟩
      rw [E.out]
      exact ⟨a, cap, rfl, by simp, h2, h3, .inl rfl⟩
    | succ k =>
      rcases h4 with rfl | ⟨b, off, rfl, h4⟩
      · simp at hk
      have g0 := (h4.u32 (j := k) (by omega)).1
      have ei : ((k + 1 : Nat) : Int) - 1 = (k : Int) := by omega
      by_cases hz : xs[k] = 0
      · have hz' : ((xs[k] : Int) == 0) = true := by simp [hz]
        have HZ := hid hz
        clear hz
        go_wp2
        go_round
        case rel =>
          refine ⟨k, by omega, rfl, fun j hj hkj => ?_⟩
          by_cases hjk : j = k
          · subst hjk; exact HZ.out
          · exact HE.out j hj (by omega)
        case measure => simp [intOf]
      · have hz' : ((xs[k] : Int) == 0) = false := by simpa using hz
        have E := hid (limbsOf_take hlt.out (k + 1) hk HE.out (fun _ => hz))
        clear hz
        go_wp2
        go_ret
        refine ⟨_, rfl, rfl, ?_⟩
        rw [E.out]
        exact ⟨some ⟨b, off, none⟩, cap, by simp; omega, by simp; omega, h2, by simp, .inr ⟨b, off, rfl, h4.take _⟩⟩

theorem limbs_len (v : Nat) : (limbsOf v).length = ((natStr v).size + 3) / 4 := by
  rw [natStr_size]
  obtain ⟨m, hm⟩ : ∃ m, m = ((natBytes v).length + 3) / 4 := ⟨_, rfl⟩
  rw [← hm]
  have e : ∀ k, (4294967296 : Nat) ^ k = 256 ^ (4 * k) := fun k => by rw [Nat.pow_mul]
  have h1 := natBytes_lt v
  have h2 : 256 ^ (natBytes v).length ≤ 4294967296 ^ m := by rw [e]; exact Nat.pow_le_pow_right (by decide) (by omega)
  have h3 := limbsOf_len_le (Nat.lt_of_lt_of_le h1 h2)
  rcases Nat.eq_zero_or_pos m with h0 | h0
  · omega
  · have h4 : 256 ^ ((natBytes v).length - 1) ≤ v := by
      rcases Nat.lt_or_ge v (256 ^ ((natBytes v).length - 1)) with h | h
      · have := natBytes_len_le h; omega
      · exact h
    have h5 : 4294967296 ^ (m - 1) ≤ v := by
      rw [e]; exact Nat.le_trans (Nat.pow_le_pow_right (by decide) (by omega)) h4
    have := limbsOf_len_ge h5
    omega

theorem limbsFix_limbs (v : Nat) : limbsFix (((natStr v).size + 3) / 4) v = limbsOf v := by
  have := limbsFix_of (limbsOf_lt v)
  rw [limbsVal_limbsOf, limbs_len] at this
  exact this

set_option maxRecDepth 100000 in
set_option maxHeartbeats 400000 in
theorem limbs_any (s0 : ByteArray) (w : World) (hs0 : s0.size ≤ 1000000000000) :
    Calls Tryd.prog 67 #[.string s0] w fun e w' => ∃ u, e = .returned u ∧ rSlice 1 rU32 w' (LT w'.heap.size) [u] (limbsOf (strVal s0)) ∧ Below w.heap.size w w' := by
  have HN := hid (rNormalize_any s0 w (by unfold maxLen; omega))
  have hsz := natStr_strVal_size' s0
  have hsv : strVal (natStr (strVal s0)) = strVal s0 := strVal_natStr _
  have hfix := limbsFix_limbs (strVal s0)
  generalize natStr (strVal s0) = s at *
  rw [← hsv] at hfix ⊢
  have HFX := hid hfix
  clear hfix hsv
  have hs : s.size ≤ 1000000000000 := by omega
  obtain ⟨m, hm⟩ : ∃ m : Nat, m = (s.size + 3) / 4 := ⟨_, rfl⟩
  rw [← hm] at HFX
  have hm1 : ((s.size : Int) + 3) / 4 = (m : Int) := by omega
  have hmk := fun (w : World) => make_one (P := Tryd.prog) Tryd.underlying73 Tryd.infoU32 rfl w m (by omega) (by omega)
  have hn : s.size ≤ 9223372036854775807 := by omega
  have HM := hid hm
  clear hm hsz hs0
  go_enter Tryd.func67, Tryd.ntmps67
  go_wp2_with fail
  refine Calls.mono HN.out ?_
  rintro e w1 ⟨rfl, rfl⟩
  go_wp2
  clear hmk
  go_loopw [4] (fun i wr => ∃ (k : Nat) (f : Nat → Value), k ≤ s.size ∧ i = .int .i64 k ∧ Below w.heap.size w wr ∧ Own wr w.heap.size 85 m f ∧ Hid (∀ j, j < m → f j = .int .u32 ((strVal s % 256 ^ k / 4294967296 ^ j % 4294967296 : Nat) : Int))) (fun i _ => s.size - (intOf i).toNat)
  case atStart => exact ⟨0, _, Nat.zero_le _, rfl, (Below.refl _ _).alloc (Nat.le_refl _) _, Own.new _ _ _ _, fun j _ => by simp [Nat.mod_one]⟩
  case round =>
    obtain ⟨k, f, hk, rfl, hbel, hown, HF⟩ := hrel
    by_cases hlt : k < s.size
    · obtain ⟨q, hq⟩ : ∃ q : Nat, q = k / 4 := ⟨_, rfl⟩
      have hq1 : ((k : Int) / 4) = (q : Int) := by omega
      have hqm : q < m := by have := HM.out; omega
      have c1 := hown.cell hqm
      rw [HF.out q hqm] at c1
      obtain ⟨x, hx⟩ : ∃ x : Nat, x = strVal s % 256 ^ k / 4294967296 ^ q % 4294967296 := ⟨_, rfl⟩
      rw [← hx] at c1
      have c2 := hown.frozen q
      have HQ := hid hq
      have HX := hid hx
      clear hq hx
      have d1 : (s.size : Int) - 1 - k = ((s.size - 1 - k : Nat) : Int) := by omega
      have d2 : s.size - 1 - k < s.size := by omega
      have hb : strVal s / 256 ^ k % 256 = (s[s.size - 1 - k]'d2).toNat := byteAt s.data.toList k hlt
      have Hb := hid hb
      have hr : k % 4 = 0 ∨ k % 4 = 1 ∨ k % 4 = 2 ∨ k % 4 = 3 := by omega
      rcases hr with hr | hr | hr | hr
      · have hr1 : ((k : Int) % 4) = 0 := by omega
        have HP := hid (parse_step (strVal s) k q 0 x _ 1 (by decide) (by omega) (by have := HQ.out; omega) HX.out hb.symm)
        clear hb
        go_wp2
        go_region
        go_wp2
        go_roundw
        case rel =>
          refine ⟨k + 1, upd f q _, by omega, by go_num, (hbel.setCell (Nat.le_refl _) _).drew, (hown.set _ _).drew, fun j hj => ?_⟩
          unfold upd
          by_cases hjq : j = q
          · rw [if_pos hjq, hjq, ← HP.out.2.2.2, parse_or x s[s.size - 1 - k].toNat 0 1 (by decide) (by omega) HP.out.1 HP.out.2.1 _ (by have := HP.out.2.2.1; omega)]
          · rw [if_neg hjq, parse_other _ k q j HQ.out hjq]; exact HF.out j hj
        case measure => simp [intOf]; omega
      · have hr1 : ((k : Int) % 4) = 1 := by omega
        have HP := hid (parse_step (strVal s) k q 1 x _ 256 (by decide) (by omega) (by have := HQ.out; omega) HX.out hb.symm)
        clear hb
        go_wp2
        go_region
        go_wp2
        go_roundw
        case rel =>
          refine ⟨k + 1, upd f q _, by omega, by go_num, (hbel.setCell (Nat.le_refl _) _).drew, (hown.set _ _).drew, fun j hj => ?_⟩
          unfold upd
          by_cases hjq : j = q
          · rw [if_pos hjq, hjq, ← HP.out.2.2.2, parse_or x s[s.size - 1 - k].toNat 8 256 (by decide) (by omega) HP.out.1 HP.out.2.1 _ (by have := HP.out.2.2.1; omega)]
          · rw [if_neg hjq, parse_other _ k q j HQ.out hjq]; exact HF.out j hj
        case measure => simp [intOf]; omega
      · have hr1 : ((k : Int) % 4) = 2 := by omega
        have HP := hid (parse_step (strVal s) k q 2 x _ 65536 (by decide) (by omega) (by have := HQ.out; omega) HX.out hb.symm)
        clear hb
        go_wp2
        go_region
        go_wp2
        go_roundw
        case rel =>
          refine ⟨k + 1, upd f q _, by omega, by go_num, (hbel.setCell (Nat.le_refl _) _).drew, (hown.set _ _).drew, fun j hj => ?_⟩
          unfold upd
          by_cases hjq : j = q
          · rw [if_pos hjq, hjq, ← HP.out.2.2.2, parse_or x s[s.size - 1 - k].toNat 16 65536 (by decide) (by omega) HP.out.1 HP.out.2.1 _ (by have := HP.out.2.2.1; omega)]
          · rw [if_neg hjq, parse_other _ k q j HQ.out hjq]; exact HF.out j hj
        case measure => simp [intOf]; omega
      · have hr1 : ((k : Int) % 4) = 3 := by omega
        have HP := hid (parse_step (strVal s) k q 3 x _ 16777216 (by decide) (by omega) (by have := HQ.out; omega) HX.out hb.symm)
        clear hb
        go_wp2
        go_region
        go_wp2
        go_roundw
        case rel =>
          refine ⟨k + 1, upd f q _, by omega, by go_num, (hbel.setCell (Nat.le_refl _) _).drew, (hown.set _ _).drew, fun j hj => ?_⟩
          unfold upd
          by_cases hjq : j = q
          · rw [if_pos hjq, hjq, ← HP.out.2.2.2, parse_or x s[s.size - 1 - k].toNat 24 16777216 (by decide) (by omega) HP.out.1 HP.out.2.1 _ (by have := HP.out.2.2.1; omega)]
          · rw [if_neg hjq, parse_other _ k q j HQ.out hjq]; exact HF.out j hj
        case measure => simp [intOf]; omega
    · have hR : rSlice 1 rU32 wr (LT wr.heap.size) [.slice (some ⟨w.heap.size, 0, none⟩) m m] (limbsFix m (strVal s)) := by
        refine hown.reads (limbsFix_len _ _) (by unfold maxLen; have := HM.out; omega) fun j hj => ?_
        rw [limbsFix_len] at hj
        have hk' : k = s.size := by omega
        have e : strVal s % 256 ^ k = strVal s := Nat.mod_eq_of_lt (by rw [hk']; exact strVal_lt s)
        rw [HF.out j hj, e]
        have g := limbsFix_get m (strVal s) j hj
        rw [List.getElem?_eq_getElem (by rw [limbsFix_len]; exact hj)] at g
        rw [Option.some.inj g]
        exact ⟨rfl, Nat.mod_lt _ (by decide)⟩
      rw [HFX.out] at hR
      go_wp2
      go_ret
      exact ⟨_, rfl, hR, hbel⟩

end Go.Proofs.YtgmedcncbpdimaaDoor
