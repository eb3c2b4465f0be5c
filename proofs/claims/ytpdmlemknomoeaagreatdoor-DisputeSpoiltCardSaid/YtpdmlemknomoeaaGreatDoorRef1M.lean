/- insolvencyref1: Normalize, strip, limbs: walked. -/
import Derived.Test.YtpdmlemknomoeaaGreatDoorNumM
set_option linter.unusedVariables false
set_option linter.unusedSimpArgs false
set_option linter.defProp false
set_option linter.unnecessarySimpa false
section
/- insolvencyref1: Normalize, strip, limbs: walked. -/
namespace Go.Proofs.YtpdmlemknomoeaaGreatDoor
open Go.RowKit
set_option maxRecDepth 100000 in
set_option maxHeartbeats 400000 in
theorem rNormalize_any (s : ByteArray) (w : World) (hs : s.size ≤ maxLen) :
    Calls Tryz.prog 118 #[.string s] w fun e w' => e = .returned (.string (natStr (strVal s))) ∧ w = w' := by
  unfold maxLen at hs
  go_enter Tryz.func118, Tryz.ntmps118
  go_wp2
  go_loop [3] (fun t => ∃ k : Nat, k ≤ s.size ∧ t = .int .i64 k ∧ Hid (strVal (s.extract k s.size) = strVal s)) (fun t => s.size - (intOf t).toNat)
  case atStart => exact ⟨0, Nat.zero_le _, rfl, by simp [Hid]⟩
  case round =>
    obtain ⟨k, hk, rfl, HE⟩ := hrel
    by_cases hlt : k < s.size
    · by_cases hz : s[k] = 0
      · have hz' : ((s[k]'hlt).toNat == 0) = true := by rw [hz]; rfl
        have HZ := hid hz
        clear hz
        go_wp2
        go_round
        case rel =>
          refine ⟨k + 1, by omega, by go_num, ?_⟩
          have := strVal_ext s k hlt
          rw [HZ.out] at this
          rw [← HE.out, this]
          simp [Hid]
        case measure => simp [intOf]; omega
      have hz' : ((s[k]'hlt).toNat == 0) = false := by
        simp only [beq_eq_false_iff_ne]
        intro h; apply hz; exact UInt8.toNat_inj.1 (by simpa using h)
      have hR : Hid (natStr (strVal s) = s.extract k s.size) := by
        rw [← HE.out]
        exact natStr_strVal fun h => by rw [ext_get0 s k hlt]; exact hz
      clear hz
      go_wp2
      go_ret
      exact ⟨ret_str hR.out.symm, rfl⟩
    have hR : Hid (natStr (strVal s) = s.extract k s.size) := by
      rw [← HE.out]
      exact natStr_strVal fun h => by simp at h; omega
    go_wp2
    go_ret
    exact ⟨ret_str hR.out.symm, rfl⟩
theorem natStr_strVal_size' (s : ByteArray) : (natStr (strVal s)).size ≤ s.size := by rw [natStr_size]; exact natBytes_len_le (strVal_lt s)
set_option maxRecDepth 100000 in
set_option maxHeartbeats 400000 in
theorem strip_any (S : Nat → Prop) (v : Value) (xs : List Nat) (w : World) (hv : rSlice 1 rU32 w S [v] xs) :
    Calls Tryz.prog 117 #[v] w fun e w' => ∃ u, e = .returned u ∧ w = w' ∧ rSlice 1 rU32 w S [u] (limbsOf (limbsVal xs)) := by
  have hlt := hid (u32s_lt hv)
  obtain ⟨a, cap, rfl, h1, h2, h3, h4⟩ := u32s_open hv
  have hn := len_le h1 h2
  have hcap : cap ≤ 9223372036854775807 := by unfold maxLen at h2; omega
  go_enter Tryz.func117, Tryz.ntmps117
  go_wp2
  go_loop [3] (fun i => ∃ k : Nat, k ≤ xs.length ∧ i = .int .i64 k ∧ Hid (∀ j (hj : j < xs.length), k ≤ j → xs[j] = 0)) (fun i => (intOf i).toNat)
  case atStart => exact ⟨xs.length, Nat.le_refl _, rfl, fun j hj h => by omega⟩
  case round =>
    obtain ⟨k, hk, rfl, HE⟩ := hrel
    cases k with
    | zero =>
      have e := limbsOf_take hlt.out 0 (by omega) HE.out (fun h => by omega)
      rw [List.take_zero] at e
      have E := hid e
      clear e
      go_wp2
      go_ret
      refine ⟨_, rfl, rfl, ?_⟩
      rw [E.out]
      exact ⟨a, cap, rfl, by simp, h2, h3, .inl rfl⟩
    | succ k =>
      rcases h4 with rfl | ⟨b, off, rfl, h4⟩
      · simp at hk
      have g0 := (h4.u32 (j := k) (by omega)).1
      have ei : ((k + 1 : Nat) : Int) - 1 = (k : Int) := by omega
      by_cases hz : xs[k] = 0
      · have hz' : ((xs[k] : Int) == 0) = true := by simp [hz]
        have HZ := hid hz
        clear hz
        go_wp2
        go_round
        case rel =>
          refine ⟨k, by omega, rfl, fun j hj hkj => ?_⟩
          by_cases hjk : j = k
          · subst hjk; exact HZ.out
          exact HE.out j hj (by omega)
        case measure => simp [intOf]
      have hz' : ((xs[k] : Int) == 0) = false := by simpa using hz
      have E := hid (limbsOf_take hlt.out (k + 1) hk HE.out (fun _ => hz))
      clear hz
      go_wp2
      go_ret
      refine ⟨_, rfl, rfl, ?_⟩
      rw [E.out]
      exact ⟨some ⟨b, off, none⟩, cap, by simp; omega, by simp; omega, h2, by simp, .inr ⟨b, off, rfl, h4.take _⟩⟩
theorem limbs_len (v : Nat) : (limbsOf v).length = ((natStr v).size + 3) / 4 := by
  rw [natStr_size]
  obtain ⟨m, hm⟩ : ∃ m, m = ((natBytes v).length + 3) / 4 := ⟨_, rfl⟩
  rw [← hm]
  have e : ∀ k, (4294967296 : Nat) ^ k = 256 ^ (4 * k) := fun k => by rw [Nat.pow_mul]
  have h1 := natBytes_lt v
  have h2 : 256 ^ (natBytes v).length ≤ 4294967296 ^ m := by rw [e]; exact Nat.pow_le_pow_right (by decide) (by omega)
  have h3 := limbsOf_len_le (Nat.lt_of_lt_of_le h1 h2)
  rcases Nat.eq_zero_or_pos m with h0 | h0
  · omega
  have h4 : 256 ^ ((natBytes v).length - 1) ≤ v := by
    rcases Nat.lt_or_ge v (256 ^ ((natBytes v).length - 1)) with h | h
    · have := natBytes_len_le h; omega
    exact h
  have h5 : 4294967296 ^ (m - 1) ≤ v := by
    rw [e]; exact Nat.le_trans (Nat.pow_le_pow_right (by decide) (by omega)) h4
  have := limbsOf_len_ge h5
  omega
theorem limbsFix_limbs (v : Nat) : limbsFix (((natStr v).size + 3) / 4) v = limbsOf v := by
  have := limbsFix_of (limbsOf_lt v)
  rw [limbsVal_limbsOf, limbs_len] at this
  exact this
set_option maxRecDepth 100000 in
set_option maxHeartbeats 400000 in
theorem limbs_any (s0 : ByteArray) (w : World) (hs0 : s0.size ≤ 1000000000000) :
    Calls Tryz.prog 125 #[.string s0] w fun e w' => ∃ u, e = .returned u ∧ rSlice 1 rU32 w' (LT w'.heap.size) [u] (limbsOf (strVal s0)) ∧ Below w.heap.size w w' := by
  have HN := hid (rNormalize_any s0 w (by unfold maxLen; omega))
  have hsz := natStr_strVal_size' s0
  have hsv : strVal (natStr (strVal s0)) = strVal s0 := strVal_natStr _
  have hfix := limbsFix_limbs (strVal s0)
  generalize natStr (strVal s0) = s at *
  rw [← hsv] at hfix ⊢
  have HFX := hid hfix
  clear hfix hsv
  have hs : s.size ≤ 1000000000000 := by omega
  obtain ⟨m, hm⟩ : ∃ m : Nat, m = (s.size + 3) / 4 := ⟨_, rfl⟩
  rw [← hm] at HFX
  have hm1 : ((s.size : Int) + 3) / 4 = (m : Int) := by omega
  have hmk := fun (w : World) => make_one (P := Tryz.prog) Tryz.underlying166 Tryz.infoU32 rfl w m (by omega) (by omega)
  have hn : s.size ≤ 9223372036854775807 := by omega
  have HM := hid hm
  clear hm hsz hs0
  go_enter Tryz.func125, Tryz.ntmps125
  go_wp2_with fail
  refine Calls.mono HN.out ?_
  rintro e w1 ⟨rfl, rfl⟩
  go_wp2
  clear hmk
  go_loopw [4] (fun i wr => ∃ (k : Nat) (f : Nat → Value), k ≤ s.size ∧ i = .int .i64 k ∧ Below w.heap.size w wr ∧ Own wr w.heap.size 165 m f ∧ Hid (∀ j, j < m → f j = .int .u32 ((strVal s % 256 ^ k / 4294967296 ^ j % 4294967296 : Nat) : Int))) (fun i _ => s.size - (intOf i).toNat)
  case atStart => exact ⟨0, _, Nat.zero_le _, rfl, (Below.refl _ _).alloc (Nat.le_refl _) _, Own.new _ _ _ _, fun j _ => by simp [Nat.mod_one]⟩
  case round =>
    obtain ⟨k, f, hk, rfl, hbel, hown, HF⟩ := hrel
    by_cases hlt : k < s.size
    · obtain ⟨q, hq⟩ : ∃ q : Nat, q = k / 4 := ⟨_, rfl⟩
      have hq1 : ((k : Int) / 4) = (q : Int) := by omega
      have hqm : q < m := by have := HM.out; omega
      have c1 := hown.cell hqm
      rw [HF.out q hqm] at c1
      obtain ⟨x, hx⟩ : ∃ x : Nat, x = strVal s % 256 ^ k / 4294967296 ^ q % 4294967296 := ⟨_, rfl⟩
      rw [← hx] at c1
      have c2 := hown.frozen q
      have HQ := hid hq
      have HX := hid hx
      clear hq hx
      have d1 : (s.size : Int) - 1 - k = ((s.size - 1 - k : Nat) : Int) := by omega
      have d2 : s.size - 1 - k < s.size := by omega
      have hb : strVal s / 256 ^ k % 256 = (s[s.size - 1 - k]'d2).toNat := byteAt s.data.toList k hlt
      have Hb := hid hb
      have hr : k % 4 = 0 ∨ k % 4 = 1 ∨ k % 4 = 2 ∨ k % 4 = 3 := by omega
      rcases hr with hr | hr | hr | hr
      · have hr1 : ((k : Int) % 4) = 0 := by omega
        have HP := hid (parse_step (strVal s) k q 0 x _ 1 (by decide) (by omega) (by have := HQ.out; omega) HX.out hb.symm)
        clear hb
        go_wp2
        go_region
        go_wp2
        go_roundw
        case rel =>
          refine ⟨k + 1, upd f q _, by omega, by go_num, (hbel.setCell (Nat.le_refl _) _).drew, (hown.set _ _).drew, fun j hj => ?_⟩
          unfold upd
          by_cases hjq : j = q
          · rw [if_pos hjq, hjq, ← HP.out.2.2.2, parse_or x s[s.size - 1 - k].toNat 0 1 (by decide) (by omega) HP.out.1 HP.out.2.1 _ (by have := HP.out.2.2.1; omega)]
          rw [if_neg hjq, parse_other _ k q j HQ.out hjq]; exact HF.out j hj
        case measure => simp [intOf]; omega
      · have hr1 : ((k : Int) % 4) = 1 := by omega
        have HP := hid (parse_step (strVal s) k q 1 x _ 256 (by decide) (by omega) (by have := HQ.out; omega) HX.out hb.symm)
        clear hb
        go_wp2
        go_region
        go_wp2
        go_roundw
        case rel =>
          refine ⟨k + 1, upd f q _, by omega, by go_num, (hbel.setCell (Nat.le_refl _) _).drew, (hown.set _ _).drew, fun j hj => ?_⟩
          unfold upd
          by_cases hjq : j = q
          · rw [if_pos hjq, hjq, ← HP.out.2.2.2, parse_or x s[s.size - 1 - k].toNat 8 256 (by decide) (by omega) HP.out.1 HP.out.2.1 _ (by have := HP.out.2.2.1; omega)]
          rw [if_neg hjq, parse_other _ k q j HQ.out hjq]; exact HF.out j hj
        case measure => simp [intOf]; omega
      · have hr1 : ((k : Int) % 4) = 2 := by omega
        have HP := hid (parse_step (strVal s) k q 2 x _ 65536 (by decide) (by omega) (by have := HQ.out; omega) HX.out hb.symm)
        clear hb
        go_wp2
        go_region
        go_wp2
        go_roundw
        case rel =>
          refine ⟨k + 1, upd f q _, by omega, by go_num, (hbel.setCell (Nat.le_refl _) _).drew, (hown.set _ _).drew, fun j hj => ?_⟩
          unfold upd
          by_cases hjq : j = q
          · rw [if_pos hjq, hjq, ← HP.out.2.2.2, parse_or x s[s.size - 1 - k].toNat 16 65536 (by decide) (by omega) HP.out.1 HP.out.2.1 _ (by have := HP.out.2.2.1; omega)]
          rw [if_neg hjq, parse_other _ k q j HQ.out hjq]; exact HF.out j hj
        case measure => simp [intOf]; omega
      have hr1 : ((k : Int) % 4) = 3 := by omega
      have HP := hid (parse_step (strVal s) k q 3 x _ 16777216 (by decide) (by omega) (by have := HQ.out; omega) HX.out hb.symm)
      clear hb
      go_wp2
      go_region
      go_wp2
      go_roundw
      case rel =>
        refine ⟨k + 1, upd f q _, by omega, by go_num, (hbel.setCell (Nat.le_refl _) _).drew, (hown.set _ _).drew, fun j hj => ?_⟩
        unfold upd
        by_cases hjq : j = q
        · rw [if_pos hjq, hjq, ← HP.out.2.2.2, parse_or x s[s.size - 1 - k].toNat 24 16777216 (by decide) (by omega) HP.out.1 HP.out.2.1 _ (by have := HP.out.2.2.1; omega)]
        rw [if_neg hjq, parse_other _ k q j HQ.out hjq]; exact HF.out j hj
      case measure => simp [intOf]; omega
    have hR : rSlice 1 rU32 wr (LT wr.heap.size) [.slice (some ⟨w.heap.size, 0, none⟩) m m] (limbsFix m (strVal s)) := by
      refine hown.reads (limbsFix_len _ _) (by unfold maxLen; have := HM.out; omega) fun j hj => ?_
      rw [limbsFix_len] at hj
      have hk' : k = s.size := by omega
      have e : strVal s % 256 ^ k = strVal s := Nat.mod_eq_of_lt (by rw [hk']; exact strVal_lt s)
      rw [HF.out j hj, e]
      have g := limbsFix_get m (strVal s) j hj
      rw [List.getElem?_eq_getElem (by rw [limbsFix_len]; exact hj)] at g
      rw [Option.some.inj g]
      exact ⟨rfl, Nat.mod_lt _ (by decide)⟩
    rw [HFX.out] at hR
    go_wp2
    go_ret
    exact ⟨_, rfl, hR, hbel⟩
end Go.Proofs.YtpdmlemknomoeaaGreatDoor
end
section
/- natural: Add, subtract, Subtract: walked. -/
namespace Go.Proofs.YtpdmlemknomoeaaGreatDoor
open Go.RowKit
end Go.Proofs.YtpdmlemknomoeaaGreatDoor
end
section
/- natural: subtract, Subtract: walked. -/
namespace Go.Proofs.YtpdmlemknomoeaaGreatDoor
open Go.RowKit
theorem strVal_limbs_len (a : ByteArray) : (limbsOf (strVal a)).length ≤ a.size := Nat.le_trans (limbs_blen _) (natBytes_len_le (strVal_lt a))
end Go.Proofs.YtpdmlemknomoeaaGreatDoor
end
section
/- natural: Multiply: walked. -/
namespace Go.Proofs.YtpdmlemknomoeaaGreatDoor
open Go.RowKit
theorem limbsVal_set : ∀ (o : List Nat) (p d : Nat) (h : p < o.length), limbsVal (o.set p d) + 4294967296 ^ p * o[p] = limbsVal o + 4294967296 ^ p * d
  | x :: r, 0, d, _ => by simp [limbsVal]; omega
  | x :: r, p + 1, d, h => by
    have ih := limbsVal_set r p d (by simpa using h)
    simp only [List.set_cons_succ, limbsVal, List.getElem_cons_succ, Nat.pow_succ]
    rw [Nat.mul_comm (4294967296 ^ p) 4294967296, Nat.mul_assoc, Nat.mul_assoc]
    omega
theorem upd_set {f : Nat → Value} {o : List Nat} {p : Nat} (hp : p < o.length) (h : ∀ j, f j = .int .u32 ((o.getD j 0 : Nat) : Int)) (d : Nat) : ∀ j, upd f p (.int .u32 (d : Int)) j = .int .u32 (((o.set p d).getD j 0 : Nat) : Int) := by
  intro j
  unfold upd
  by_cases hj : j = p
  · rw [if_pos hj, hj]; simp [List.getD, hp]
  rw [if_neg hj, h j]
  simp [List.getD, List.getElem?_set, show ¬ p = j by omega]
theorem mul_bd {u v : Nat} (hu : u < 4294967296) (hv : v < 4294967296) : u * v ≤ 18446744065119617025 := by
  have := Nat.mul_le_mul (Nat.le_of_lt_succ hu : u ≤ 4294967295) (Nat.le_of_lt_succ hv : v ≤ 4294967295)
  exact this
end Go.Proofs.YtpdmlemknomoeaaGreatDoor
end
section
/- natural: divideSmall: walked. -/
namespace Go.Proofs.YtpdmlemknomoeaaGreatDoor
open Go.RowKit
theorem or32_add (r x : Nat) (hr : r < 4294967296) (hx : x < 4294967296) : bits .or .u64 ((r : Int) * 4294967296) (x : Int) = ((r * 4294967296 + x : Nat) : Int) := by
  have e : (r : Int) * 4294967296 = ((r * 2 ^ 32 : Nat) : Int) := by rw [Int.natCast_mul]; rfl
  rw [e, u64_or_nat _ _ (by omega) (by omega), Nat.or_comm, or_add x r 32 (by omega)]
set_option maxRecDepth 100000 in
set_option maxHeartbeats 1000000 in
theorem divideSmall_any (S : Nat → Prop) (u : Value) (xs : List Nat) (d : Nat) (w : World) (hS : ∀ b, S b → b < w.heap.size) (hl : xs.length ≤ 1000000000000) (hd0 : 0 < d) (hd : d < 4294967296) (hu : rSlice 1 rU32 w S [u] xs) :
    Calls Tryz.prog 156 #[u, .int .u32 d] w fun e w' => ∃ r, e = .returned (.tuple #[r, .int .u32 ((limbsVal xs % d : Nat) : Int)]) ∧ rSlice 1 rU32 w' (LT w'.heap.size) [r] (limbsOf (limbsVal xs / d)) ∧ Below w.heap.size w w' := by
  have hxlt := hid (u32s_lt hu)
  obtain ⟨xa, xc, rfl, x1, x2, x3, x4⟩ := u32s_open hu
  have hn := len_le x1 x2
  have hmk := fun (w : World) => make_one (P := Tryz.prog) Tryz.underlying187 Tryz.infoU32 rfl w xs.length (by omega) (by omega)
  go_enter Tryz.func156, Tryz.ntmps156
  go_wp2
  clear hmk
  go_loopw [7, 8, 9] (fun r i _ wr => ∃ (k r' : Nat) (o : List Nat) (f : Nat → Value), k ≤ xs.length ∧ i = .int .i64 ((k : Int) - 1) ∧ r = .int .u64 (r' : Int) ∧ r' < d ∧ Below w.heap.size w wr ∧ w.heap.size < wr.heap.size ∧ Own wr w.heap.size 165 xs.length f ∧ Hid (∀ j, f j = .int .u32 ((o.getD j 0 : Nat) : Int)) ∧ Hid (o.length = xs.length) ∧ Hid (∀ x ∈ o, x < 4294967296) ∧
      Hid (limbsVal (xs.drop k) = limbsVal (o.drop k) * d + r')) (fun _ i _ _ => (intOf i + 1).toNat)
  case atStart =>
    refine ⟨xs.length, 0, List.replicate xs.length 0, _, Nat.le_refl _, rfl, rfl, hd0, (Below.refl _ _).alloc (Nat.le_refl _) _, by simp, Own.new _ _ _ _, fun j => ?_, by simp [Hid], fun x hx => ?_, ?_⟩
    · simp [List.getD, List.getElem?_replicate]; split <;> rfl
    · have := List.eq_of_mem_replicate hx; omega
    show limbsVal (xs.drop xs.length) = _
    rw [List.drop_length, List.drop_of_length_le (by simp)]; simp [limbsVal]
  case round =>
    obtain ⟨k, r', o, f, hk, rfl, rfl, hr', hbw, hsz, hown, HF, HL, HD, HV⟩ := hrel
    cases k with
    | zero =>
      have hs := HV.out
      rw [List.drop_zero, List.drop_zero] at hs
      have hq : limbsVal o = limbsVal xs / d := by rw [hs, Nat.mul_comm, Nat.mul_add_div hd0, Nat.div_eq_of_lt hr']; rfl
      have hrm : limbsVal xs % d = r' := by rw [hs, Nat.mul_comm, Nat.mul_add_mod, Nat.mod_eq_of_lt hr']
      have hR := own_limbs hown HF.out HL.out (by omega) HD.out
      have HT := hid (trim_any _ _ _ _ hR)
      rw [hq] at HT
      have HRM := hid hrm
      clear hs hq hR hrm
      have hr32 : r' < 4294967296 := by omega
      go_wp2_with fail
      refine Calls.mono HT.out ?_
      rintro e' w3 ⟨r, rfl, rfl, hr⟩
      go_wp2
      go_ret2
      exact ⟨r, by rw [HRM.out]; rfl, hr, hbw⟩
    | succ k =>
      rw [show (((k + 1 : Nat) : Int) - 1) = (k : Int) by omega]
      have hlt : k < xs.length := by omega
      rcases x4 with rfl | ⟨b1, off1, rfl, x4⟩
      · simp at hlt
      obtain ⟨g0, g1⟩ := x4.u32 hlt
      rw [← hbw.cell (p := ⟨b1, off1 + k, none⟩) (hS _ x4.1)] at g0
      have c1 := hown.cell hlt
      rw [HF.out k] at c1
      have c2 := hown.frozen k
      have hr32 : r' < 4294967296 := by omega
      obtain ⟨x, hx⟩ : ∃ x, x = xs[k] := ⟨_, rfl⟩
      have HX := hid (show limbsVal (xs.drop k) = x + 4294967296 * limbsVal (xs.drop (k + 1)) by rw [hx, List.drop_eq_getElem_cons hlt]; rfl)
      rw [← hx] at g0 g1
      clear hx
      have o1 := or32_add r' x hr32 g1
      obtain ⟨q, hq⟩ : ∃ q : Nat, q = (r' * 4294967296 + x) / d := ⟨_, rfl⟩
      obtain ⟨r2, hr2⟩ : ∃ r2 : Nat, r2 = (r' * 4294967296 + x) % d := ⟨_, rfl⟩
      have hqr : d * q + r2 = r' * 4294967296 + x := by rw [hq, hr2]; exact Nat.div_add_mod _ _
      have hr2d : r2 < d := by rw [hr2]; exact Nat.mod_lt _ hd0
      have hq32 : q < 4294967296 := by
        rw [hq]
        apply Nat.div_lt_of_lt_mul
        have := Nat.mul_le_mul_right 4294967296 (show r' + 1 ≤ d from hr')
        rw [Nat.add_mul] at this
        omega
      have Q1 := hid (show (((r' : Int) * 4294967296 + (x : Int)) / (d : Int)) % 4294967296 = (q : Int) by
        have : ((r' : Int) * 4294967296 + (x : Int)) / (d : Int) = (q : Int) := by rw [hq, Int.natCast_ediv, Int.natCast_add, Int.natCast_mul]; rfl
        rw [this]; omega)
      have Q2 := hid (show (((r' : Int) * 4294967296 + (x : Int)) % (d : Int)) = (r2 : Int) by rw [hr2, Int.natCast_emod, Int.natCast_add, Int.natCast_mul]; rfl)
      have HQR := hid hqr
      clear hq hr2 hqr
      go_wp2
      clear o1
      go_roundw
      case rel =>
        rw [Q1.out, Q2.out]
        have hko : k < o.length := by rw [HL.out]; exact hlt
        refine ⟨k, r2, o.set k q, upd f k (.int .u32 q), by omega, rfl, rfl, hr2d, hbw.setCell (Nat.le_refl _) _, by simpa using hsz, hown.set _ _, upd_set hko HF.out q, ?_, ?_, ?_⟩
        · show (o.set k q).length = _; simp [HL.out]
        · intro u hu
          rcases List.mem_or_eq_of_mem_set hu with h | h
          · exact HD.out u h
          omega
        show limbsVal (xs.drop k) = limbsVal ((o.set k q).drop k) * d + r2
        have e : (o.set k q).drop k = q :: o.drop (k + 1) := by
          rw [List.drop_eq_getElem_cons (by simpa using hko), List.drop_set_of_lt (by omega)]
          simp
        rw [HX.out, HV.out, e]
        show _ = (q + 4294967296 * limbsVal (o.drop (k + 1))) * d + r2
        have h1 := HQR.out
        rw [Nat.add_mul, Nat.mul_add, Nat.mul_assoc 4294967296, Nat.mul_comm q d]
        omega
      case measure => simp [intOf]
end Go.Proofs.YtpdmlemknomoeaaGreatDoor
end
section
/- insolvencyref1: order, short: walked. -/
namespace Go.Proofs.YtpdmlemknomoeaaGreatDoor
open Go.RowKit
set_option maxRecDepth 100000 in
set_option maxHeartbeats 1000000 in
theorem order_any (S : Nat → Prop) (u v : Value) (x y : Nat) (w : World) (hS : ∀ b, S b → b < w.heap.size) (hu : rSlice 1 rU32 w S [u] (limbsOf x)) (hv : rSlice 1 rU32 w S [v] (limbsOf y)) :
    Calls Tryz.prog 144 #[u, v] w fun e w' => e = .returned (.int .i64 (natCmp x y)) ∧ Below w.heap.size w w' := by
  obtain ⟨a, cap, rfl, h1, h2, h3, h4⟩ := u32s_open hu
  obtain ⟨a', cap', rfl, h1', h2', h3', h4'⟩ := u32s_open hv
  have hn := len_le h1 h2
  have hn' := len_le h1' h2'
  rcases Nat.lt_trichotomy (limbsOf x).length (limbsOf y).length with hl | hl | hl
  · have hR := hid (natCmp_lt (limbs_len_lt hl))
    have hl' : ((limbsOf x).length != (limbsOf y).length) = true := by simp; omega
    have hl2 : ¬ (((limbsOf x).length : Int) = ((limbsOf y).length : Int)) := by omega
    go_enter Tryz.func144, Tryz.ntmps144
    go_wp2
    go_ret
    exact ⟨ret_int hR.out.symm, Below.refl _ _⟩
  · have HL := hid hl
    rw [← hl]
    clear hl
    go_enter Tryz.func144, Tryz.ntmps144
    go_wp2
    go_loopw [5] (fun i wr => ∃ k : Nat, k ≤ (limbsOf x).length ∧ i = .int .i64 ((k : Int) - 1) ∧ Below w.heap.size w wr ∧ Hid ((limbsOf x).drop k = (limbsOf y).drop k)) (fun i _ => (intOf i + 1).toNat)
    case atStart => exact ⟨_, Nat.le_refl _, rfl, Below.refl _ _, by show (limbsOf x).drop (limbsOf x).length = (limbsOf y).drop (limbsOf x).length; rw [List.drop_length, HL.out, List.drop_length]⟩
    case round =>
      obtain ⟨k, hk, rfl, hbel, HE⟩ := hrel
      cases k with
      | zero =>
        have hxy : x = y := by
          have := HE.out
          rw [List.drop_zero, List.drop_zero] at this
          have := congrArg limbsVal this
          rwa [limbsVal_limbsOf, limbsVal_limbsOf] at this
        have hR : Hid (natCmp x y = 0) := by subst hxy; exact natCmp_eq _
        clear hxy
        go_wp2
        go_ret
        exact ⟨ret_int hR.out.symm, hbel⟩
      | succ k =>
        rw [show (((k + 1 : Nat) : Int) - 1) = (k : Int) by omega]
        have hlt : k < (limbsOf x).length := by omega
        have hlt' : k < (limbsOf y).length := by have := HL.out; omega
        rcases h4 with h4 | ⟨b, off, rfl, h4⟩
        · rw [h4] at hlt; simp at hlt
        rcases h4' with h4' | ⟨b', off', rfl, h4'⟩
        · rw [h4'] at hlt'; simp at hlt'
        obtain ⟨g0, g1⟩ := h4.u32 hlt
        rw [← hbel.cell (p := ⟨b, off + k, none⟩) (hS _ h4.1)] at g0
        obtain ⟨f0, f1⟩ := h4'.u32 hlt'
        rw [← hbel.cell (p := ⟨b', off' + k, none⟩) (hS _ h4'.1)] at f0
        have HX := hid (limbsOf_lt x)
        have HY := hid (limbsOf_lt y)
        have HVX := hid (limbsVal_limbsOf x)
        have HVY := hid (limbsVal_limbsOf y)
        rcases Nat.lt_trichotomy (limbsOf x)[k] (limbsOf y)[k] with hc | hc | hc
        · have hR : Hid (natCmp x y = -1) := natCmp_lt (by rw [← HVX.out, ← HVY.out]; exact limbs_lt_of_top HX.out HL.out k hlt hlt' HE.out hc)
          have q1 : (((limbsOf x)[k] : Int) != ((limbsOf y)[k] : Int)) = true := by rw [bne_iff_ne]; omega
          have q1' : ((limbsOf x)[k] != (limbsOf y)[k]) = true := by rw [bne_iff_ne]; omega
          go_wp2
          go_quiet (fail)
          go_wp2
          go_quiet (fail)
          go_wp2
          go_ret
          exact ⟨ret_int hR.out.symm, (hbel.drewN _).drewN _⟩
        · have q1 : (((limbsOf x)[k] : Int) != ((limbsOf y)[k] : Int)) = false := by simp [hc]
          have q1' : ((limbsOf x)[k] != (limbsOf y)[k]) = false := by simp [hc]
          have HC := hid hc
          clear hc
          go_wp2
          go_quiet (fail)
          go_wp2
          go_roundw
          case rel => exact ⟨k, by omega, rfl, hbel.drewN _, by show (limbsOf x).drop k = (limbsOf y).drop k; rw [List.drop_eq_getElem_cons hlt, List.drop_eq_getElem_cons hlt', HC.out, HE.out]⟩
          case measure => simp [intOf]
        have hR : Hid (natCmp x y = 1) := natCmp_gt (by rw [← HVX.out, ← HVY.out]; exact limbs_lt_of_top HY.out HL.out.symm k hlt' hlt HE.out.symm hc)
        have q1 : (((limbsOf x)[k] : Int) != ((limbsOf y)[k] : Int)) = true := by rw [bne_iff_ne]; omega
        have q1' : ((limbsOf x)[k] != (limbsOf y)[k]) = true := by rw [bne_iff_ne]; omega
        have q2 : ¬ (limbsOf x)[k] < (limbsOf y)[k] := by omega
        go_wp2
        go_quiet (fail)
        go_wp2
        go_quiet (fail)
        go_wp2
        go_ret
        exact ⟨ret_int hR.out.symm, (hbel.drewN _).drewN _⟩
  have hR := hid (natCmp_gt (limbs_len_lt hl))
  have hl' : ((limbsOf x).length != (limbsOf y).length) = true := by simp; omega
  have hl2 : ¬ (((limbsOf x).length : Int) = ((limbsOf y).length : Int)) := by omega
  go_enter Tryz.func144, Tryz.ntmps144
  go_wp2
  go_ret
  exact ⟨ret_int hR.out.symm, Below.refl _ _⟩
set_option maxRecDepth 100000 in
set_option maxHeartbeats 1000000 in
theorem short_any (S : Nat → Prop) (u : Value) (xs : List Nat) (d : Nat) (w : World) (hS : ∀ b, S b → b < w.heap.size) (hl : xs.length ≤ 1000000000000) (hd0 : 0 < d) (hd : d < 4294967296) (hu : rSlice 1 rU32 w S [u] xs) :
    Calls Tryz.prog 173 #[u, .int .u32 d] w fun e w' => ∃ r, e = .returned (.tuple #[r, .int .u32 ((limbsVal xs % d : Nat) : Int)]) ∧ rSlice 1 rU32 w' (LT w'.heap.size) [r] (limbsOf (limbsVal xs / d)) ∧ Below w.heap.size w w' := by
  have hxlt := hid (u32s_lt hu)
  obtain ⟨xa, xc, rfl, x1, x2, x3, x4⟩ := u32s_open hu
  have hn := len_le x1 x2
  have hmk := fun (w : World) => make_one (P := Tryz.prog) Tryz.underlying166 Tryz.infoU32 rfl w xs.length (by omega) (by omega)
  go_enter Tryz.func173, Tryz.ntmps173
  go_wp2
  clear hmk
  go_loopw [7, 8] (fun r i wr => ∃ (k r' : Nat) (o : List Nat) (f : Nat → Value), k ≤ xs.length ∧ i = .int .i64 ((k : Int) - 1) ∧ r = .int .u64 (r' : Int) ∧ r' < d ∧ Below w.heap.size w wr ∧ w.heap.size < wr.heap.size ∧ Own wr w.heap.size 165 xs.length f ∧ Hid (∀ j, f j = .int .u32 ((o.getD j 0 : Nat) : Int)) ∧ Hid (o.length = xs.length) ∧ Hid (∀ x ∈ o, x < 4294967296) ∧
      Hid (limbsVal (xs.drop k) = limbsVal (o.drop k) * d + r')) (fun _ i _ => (intOf i + 1).toNat)
  case atStart =>
    refine ⟨xs.length, 0, List.replicate xs.length 0, _, Nat.le_refl _, rfl, rfl, hd0, (Below.refl _ _).alloc (Nat.le_refl _) _, by simp, Own.new _ _ _ _, fun j => ?_, by simp [Hid], fun x hx => ?_, ?_⟩
    · simp [List.getD, List.getElem?_replicate]; split <;> rfl
    · have := List.eq_of_mem_replicate hx; omega
    show limbsVal (xs.drop xs.length) = _
    rw [List.drop_length, List.drop_of_length_le (by simp)]; simp [limbsVal]
  case round =>
    obtain ⟨k, r', o, f, hk, rfl, rfl, hr', hbw, hsz, hown, HF, HL, HD, HV⟩ := hrel
    cases k with
    | zero =>
      have hs := HV.out
      rw [List.drop_zero, List.drop_zero] at hs
      have hq : limbsVal o = limbsVal xs / d := by rw [hs, Nat.mul_comm, Nat.mul_add_div hd0, Nat.div_eq_of_lt hr']; rfl
      have hrm : limbsVal xs % d = r' := by rw [hs, Nat.mul_comm, Nat.mul_add_mod, Nat.mod_eq_of_lt hr']
      have hR := own_limbs hown HF.out HL.out (by omega) HD.out
      have HT := hid (strip_any _ _ _ _ hR)
      rw [hq] at HT
      have HRM := hid hrm
      clear hs hq hR hrm
      have hr32 : r' < 4294967296 := by omega
      go_wp2_with fail
      refine Calls.mono HT.out ?_
      rintro e' w3 ⟨r, rfl, rfl, hr⟩
      go_wp2
      go_ret2
      exact ⟨r, by rw [HRM.out]; rfl, hr, hbw⟩
    | succ k =>
      rw [show (((k + 1 : Nat) : Int) - 1) = (k : Int) by omega]
      have hlt : k < xs.length := by omega
      rcases x4 with rfl | ⟨b1, off1, rfl, x4⟩
      · simp at hlt
      obtain ⟨g0, g1⟩ := x4.u32 hlt
      rw [← hbw.cell (p := ⟨b1, off1 + k, none⟩) (hS _ x4.1)] at g0
      have c1 := hown.cell hlt
      rw [HF.out k] at c1
      have c2 := hown.frozen k
      have hr32 : r' < 4294967296 := by omega
      obtain ⟨x, hx⟩ : ∃ x, x = xs[k] := ⟨_, rfl⟩
      have HX := hid (show limbsVal (xs.drop k) = x + 4294967296 * limbsVal (xs.drop (k + 1)) by rw [hx, List.drop_eq_getElem_cons hlt]; rfl)
      rw [← hx] at g0 g1
      clear hx
      have o1 := or32_add r' x hr32 g1
      obtain ⟨q, hq⟩ : ∃ q : Nat, q = (r' * 4294967296 + x) / d := ⟨_, rfl⟩
      obtain ⟨r2, hr2⟩ : ∃ r2 : Nat, r2 = (r' * 4294967296 + x) % d := ⟨_, rfl⟩
      have hqr : d * q + r2 = r' * 4294967296 + x := by rw [hq, hr2]; exact Nat.div_add_mod _ _
      have hr2d : r2 < d := by rw [hr2]; exact Nat.mod_lt _ hd0
      have hq32 : q < 4294967296 := by
        rw [hq]
        apply Nat.div_lt_of_lt_mul
        have := Nat.mul_le_mul_right 4294967296 (show r' + 1 ≤ d from hr')
        rw [Nat.add_mul] at this
        omega
      have Q1 := hid (show (((r' : Int) * 4294967296 + (x : Int)) / (d : Int)) % 4294967296 = (q : Int) by
        have : ((r' : Int) * 4294967296 + (x : Int)) / (d : Int) = (q : Int) := by rw [hq, Int.natCast_ediv, Int.natCast_add, Int.natCast_mul]; rfl
        rw [this]; omega)
      have Q2 := hid (show (((r' : Int) * 4294967296 + (x : Int)) % (d : Int)) = (r2 : Int) by rw [hr2, Int.natCast_emod, Int.natCast_add, Int.natCast_mul]; rfl)
      have HQR := hid hqr
      clear hq hr2 hqr
      go_wp2
      clear o1
      go_roundw
      case rel =>
        rw [Q1.out, Q2.out]
        have hko : k < o.length := by rw [HL.out]; exact hlt
        refine ⟨k, r2, o.set k q, upd f k (.int .u32 q), by omega, rfl, rfl, hr2d, hbw.setCell (Nat.le_refl _) _, by simpa using hsz, hown.set _ _, upd_set hko HF.out q, ?_, ?_, ?_⟩
        · show (o.set k q).length = _; simp [HL.out]
        · intro u hu
          rcases List.mem_or_eq_of_mem_set hu with h | h
          · exact HD.out u h
          omega
        show limbsVal (xs.drop k) = limbsVal ((o.set k q).drop k) * d + r2
        have e : (o.set k q).drop k = q :: o.drop (k + 1) := by
          rw [List.drop_eq_getElem_cons (by simpa using hko), List.drop_set_of_lt (by omega)]
          simp
        rw [HX.out, HV.out, e]
        show _ = (q + 4294967296 * limbsVal (o.drop (k + 1))) * d + r2
        have h1 := HQR.out
        rw [Nat.add_mul, Nat.mul_add, Nat.mul_assoc 4294967296, Nat.mul_comm q d]
        omega
      case measure => simp [intOf]
end Go.Proofs.YtpdmlemknomoeaaGreatDoor
end
section
/- insolvencyref1: times: walked. -/
namespace Go.Proofs.YtpdmlemknomoeaaGreatDoor
open Go.RowKit
end Go.Proofs.YtpdmlemknomoeaaGreatDoor
end
