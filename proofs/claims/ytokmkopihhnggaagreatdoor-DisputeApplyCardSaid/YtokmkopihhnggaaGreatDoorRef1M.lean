/- insolvencyref1: Normalize, strip, limbs: walked. -/
import Derived.Test.YtokmkopihhnggaaGreatDoorNumM
set_option linter.unusedVariables false
set_option linter.unusedSimpArgs false
namespace Go.Proofs.YtokmkopihhnggaaGreatDoor
open Go.RowKit
set_option maxRecDepth 100000 in
set_option maxHeartbeats 400000 in
theorem rNormalize_any (s : ByteArray) (w : World) (hs : s.size ≤ maxLen) :
  Calls Tryz.prog 192 #[.string s] w fun e w' => e = .returned (.string (natStr (strVal s))) ∧ w = w' := by
 unfold maxLen at hs
 go_enter Tryz.func192, Tryz.ntmps192
 go_wp2
 go_loop [3] (fun t => ∃ k : Nat, k ≤ s.size ∧ t = .int .i64 k ∧ Hid (strVal (s.extract k s.size) = strVal s)) (fun t => s.size - (intOf t).toNat)
 case atStart => exact ⟨0, Nat.zero_le _, rfl, by simp [Hid]⟩
 case round =>
  obtain ⟨k, hk, rfl, HE⟩ := hrel
  by_cases hlt : k < s.size
  ·by_cases hz : s[k] = 0
   ·have hz' : ((s[k]'hlt).toNat == 0) = true := by rw [hz]; rfl
    have HZ := hid hz
    clear hz
    go_wp2
    go_round
    case rel =>
     refine ⟨k + 1, by omega, by go_num, ?_⟩
     have := strVal_ext s k hlt
     rw [HZ.out] at this
     rw [← HE.out, this]
     simp [Hid]
    case measure => simp [intOf]; omega
   have hz' : ((s[k]'hlt).toNat == 0) = false := by
    simp only [beq_eq_false_iff_ne]
    intro h; apply hz; exact UInt8.toNat_inj.1 (by simpa using h)
   have hR : Hid (natStr (strVal s) = s.extract k s.size) := by
    rw [← HE.out]
    exact natStr_strVal fun h => by rw [ext_get0 s k hlt]; exact hz
   clear hz
   go_wp2
   go_ret
   exact ⟨ret_str hR.out.symm, rfl⟩
  have hR : Hid (natStr (strVal s) = s.extract k s.size) := by
   rw [← HE.out]
   exact natStr_strVal fun h => by simp at h; omega
  go_wp2
  go_ret
  exact ⟨ret_str hR.out.symm, rfl⟩
theorem natStr_strVal_size' (s : ByteArray) : (natStr (strVal s)).size ≤ s.size := by rw [natStr_size]; exact natBytes_len_le (strVal_lt s)
set_option maxRecDepth 100000 in
set_option maxHeartbeats 400000 in
theorem strip_any (S : Nat → Prop) (v : Value) (xs : List Nat) (w : World) (hv : rSlice 1 rU32 w S [v] xs) :
  Calls Tryz.prog 191 #[v] w fun e w' => ∃ u, e = .returned u ∧ w = w' ∧ rSlice 1 rU32 w S [u] (limbsOf (limbsVal xs)) := by
 have hlt := hid (u32s_lt hv)
 obtain ⟨a, cap, rfl, h1, h2, h3, h4⟩ := u32s_open hv
 have hn := len_le h1 h2
 have hcap : cap ≤ 9223372036854775807 := by unfold maxLen at h2; omega
 go_enter Tryz.func191, Tryz.ntmps191
 go_wp2
 go_loop [3] (fun i => ∃ k : Nat, k ≤ xs.length ∧ i = .int .i64 k ∧ Hid (∀ j (hj : j < xs.length), k ≤ j → xs[j] = 0)) (fun i => (intOf i).toNat)
 case atStart => exact ⟨xs.length, Nat.le_refl _, rfl, fun j hj h => by omega⟩
 case round =>
  obtain ⟨k, hk, rfl, HE⟩ := hrel
  cases k with
  | zero =>
   have e := limbsOf_take hlt.out 0 (by omega) HE.out (fun h => by omega)
   rw [List.take_zero] at e
   have E := hid e
   clear e
   go_wp2
   go_ret
   refine ⟨_, rfl, rfl, ?_⟩
   rw [E.out]
   exact ⟨a, cap, rfl, by simp, h2, h3, .inl rfl⟩
  | succ k =>
   rcases h4 with rfl | ⟨b, off, rfl, h4⟩
   ·simp at hk
   have g0 := (h4.u32 (j := k) (by omega)).1
   have ei : ((k + 1 : Nat) : Int) - 1 = (k : Int) := by omega
   by_cases hz : xs[k] = 0
   ·have hz' : ((xs[k] : Int) == 0) = true := by simp [hz]
    have HZ := hid hz
    clear hz
    go_wp2
    go_round
    case rel =>
     refine ⟨k, by omega, rfl, fun j hj hkj => ?_⟩
     by_cases hjk : j = k
     ·subst hjk; exact HZ.out
     exact HE.out j hj (by omega)
    case measure => simp [intOf]
   have hz' : ((xs[k] : Int) == 0) = false := by simpa using hz
   have E := hid (limbsOf_take hlt.out (k + 1) hk HE.out (fun _ => hz))
   clear hz
   go_wp2
   go_ret
   refine ⟨_, rfl, rfl, ?_⟩
   rw [E.out]
   exact ⟨some ⟨b, off, none⟩, cap, by simp; omega, by simp; omega, h2, by simp, .inr ⟨b, off, rfl, h4.take _⟩⟩
theorem limbs_len (v : Nat) : (limbsOf v).length = ((natStr v).size + 3) / 4 := by
 rw [natStr_size]
 obtain ⟨m, hm⟩ : ∃ m, m = ((natBytes v).length + 3) / 4 := ⟨_, rfl⟩
 rw [← hm]
 have e : ∀ k, (4294967296 : Nat) ^ k = 256 ^ (4 * k) := fun k => by rw [Nat.pow_mul]
 have h1 := natBytes_lt v
 have h2 : 256 ^ (natBytes v).length ≤ 4294967296 ^ m := by rw [e]; exact Nat.pow_le_pow_right (by decide) (by omega)
 have h3 := limbsOf_len_le (Nat.lt_of_lt_of_le h1 h2)
 rcases Nat.eq_zero_or_pos m with h0 | h0
 ·omega
 have h4 : 256 ^ ((natBytes v).length - 1) ≤ v := by
  rcases Nat.lt_or_ge v (256 ^ ((natBytes v).length - 1)) with h | h
  ·have := natBytes_len_le h; omega
  exact h
 have h5 : 4294967296 ^ (m - 1) ≤ v := by
  rw [e]; exact Nat.le_trans (Nat.pow_le_pow_right (by decide) (by omega)) h4
 have := limbsOf_len_ge h5
 omega
theorem limbsFix_limbs (v : Nat) : limbsFix (((natStr v).size + 3) / 4) v = limbsOf v := by
 have := limbsFix_of (limbsOf_lt v)
 rw [limbsVal_limbsOf, limbs_len] at this
 exact this
set_option maxRecDepth 100000 in
set_option maxHeartbeats 400000 in
theorem limbs_any (s0 : ByteArray) (w : World) (hs0 : s0.size ≤ 1000000000000) :
  Calls Tryz.prog 175 #[.string s0] w fun e w' => ∃ u, e = .returned u ∧ rSlice 1 rU32 w' (LT w'.heap.size) [u] (limbsOf (strVal s0)) ∧ Below w.heap.size w w' := by
 have HN := hid (rNormalize_any s0 w (by unfold maxLen; omega))
 have hsz := natStr_strVal_size' s0
 have hsv : strVal (natStr (strVal s0)) = strVal s0 := strVal_natStr _
 have hfix := limbsFix_limbs (strVal s0)
 generalize natStr (strVal s0) = s at *
 rw [← hsv] at hfix ⊢
 have HFX := hid hfix
 clear hfix hsv
 have hs : s.size ≤ 1000000000000 := by omega
 obtain ⟨m, hm⟩ : ∃ m : Nat, m = (s.size + 3) / 4 := ⟨_, rfl⟩
 rw [← hm] at HFX
 have hm1 : ((s.size : Int) + 3) / 4 = (m : Int) := by omega
 have hmk := fun (w : World) => make_one (P := Tryz.prog) Tryz.underlying203 Tryz.infoU32 rfl w m (by omega) (by omega)
 have hn : s.size ≤ 9223372036854775807 := by omega
 have HM := hid hm
 clear hm hsz hs0
 go_enter Tryz.func175, Tryz.ntmps175
 go_wp2_with fail
 refine Calls.mono HN.out ?_
 rintro e w1 ⟨rfl, rfl⟩
 go_wp2
 clear hmk
 go_loopw [4] (fun i wr => ∃ (k : Nat) (f : Nat → Value), k ≤ s.size ∧ i = .int .i64 k ∧ Below w.heap.size w wr ∧ Own wr w.heap.size 206 m f ∧ Hid (∀ j, j < m → f j = .int .u32 ((strVal s % 256 ^ k / 4294967296 ^ j % 4294967296 : Nat) : Int))) (fun i _ => s.size - (intOf i).toNat)
 case atStart => exact ⟨0, _, Nat.zero_le _, rfl, (Below.refl _ _).alloc (Nat.le_refl _) _, Own.new _ _ _ _, fun j _ => by simp [Nat.mod_one]⟩
 case round =>
  obtain ⟨k, f, hk, rfl, hbel, hown, HF⟩ := hrel
  by_cases hlt : k < s.size
  ·obtain ⟨q, hq⟩ : ∃ q : Nat, q = k / 4 := ⟨_, rfl⟩
   have hq1 : ((k : Int) / 4) = (q : Int) := by omega
   have hqm : q < m := by have := HM.out; omega
   have c1 := hown.cell hqm
   rw [HF.out q hqm] at c1
   obtain ⟨x, hx⟩ : ∃ x : Nat, x = strVal s % 256 ^ k / 4294967296 ^ q % 4294967296 := ⟨_, rfl⟩
   rw [← hx] at c1
   have c2 := hown.frozen q
   have HQ := hid hq
   have HX := hid hx
   clear hq hx
   have d1 : (s.size : Int) - 1 - k = ((s.size - 1 - k : Nat) : Int) := by omega
   have d2 : s.size - 1 - k < s.size := by omega
   have hb : strVal s / 256 ^ k % 256 = (s[s.size - 1 - k]'d2).toNat := byteAt s.data.toList k hlt
   have Hb := hid hb
   have hr : k % 4 = 0 ∨ k % 4 = 1 ∨ k % 4 = 2 ∨ k % 4 = 3 := by omega
   rcases hr with hr | hr | hr | hr
   ·have hr1 : ((k : Int) % 4) = 0 := by omega
    have HP := hid (parse_step (strVal s) k q 0 x _ 1 (by decide) (by omega) (by have := HQ.out; omega) HX.out hb.symm)
    clear hb
    go_wp2
    go_region
    go_wp2
    go_roundw
    case rel =>
     refine ⟨k + 1, upd f q _, by omega, by go_num, (hbel.setCell (Nat.le_refl _) _).drew, (hown.set _ _).drew, fun j hj => ?_⟩
     unfold upd
     by_cases hjq : j = q
     ·rw [if_pos hjq, hjq, ← HP.out.2.2.2, parse_or x s[s.size - 1 - k].toNat 0 1 (by decide) (by omega) HP.out.1 HP.out.2.1 _ (by have := HP.out.2.2.1; omega)]
     rw [if_neg hjq, parse_other _ k q j HQ.out hjq]; exact HF.out j hj
    case measure => simp [intOf]; omega
   ·have hr1 : ((k : Int) % 4) = 1 := by omega
    have HP := hid (parse_step (strVal s) k q 1 x _ 256 (by decide) (by omega) (by have := HQ.out; omega) HX.out hb.symm)
    clear hb
    go_wp2
    go_region
    go_wp2
    go_roundw
    case rel =>
     refine ⟨k + 1, upd f q _, by omega, by go_num, (hbel.setCell (Nat.le_refl _) _).drew, (hown.set _ _).drew, fun j hj => ?_⟩
     unfold upd
     by_cases hjq : j = q
     ·rw [if_pos hjq, hjq, ← HP.out.2.2.2, parse_or x s[s.size - 1 - k].toNat 8 256 (by decide) (by omega) HP.out.1 HP.out.2.1 _ (by have := HP.out.2.2.1; omega)]
     rw [if_neg hjq, parse_other _ k q j HQ.out hjq]; exact HF.out j hj
    case measure => simp [intOf]; omega
   ·have hr1 : ((k : Int) % 4) = 2 := by omega
    have HP := hid (parse_step (strVal s) k q 2 x _ 65536 (by decide) (by omega) (by have := HQ.out; omega) HX.out hb.symm)
    clear hb
    go_wp2
    go_region
    go_wp2
    go_roundw
    case rel =>
     refine ⟨k + 1, upd f q _, by omega, by go_num, (hbel.setCell (Nat.le_refl _) _).drew, (hown.set _ _).drew, fun j hj => ?_⟩
     unfold upd
     by_cases hjq : j = q
     ·rw [if_pos hjq, hjq, ← HP.out.2.2.2, parse_or x s[s.size - 1 - k].toNat 16 65536 (by decide) (by omega) HP.out.1 HP.out.2.1 _ (by have := HP.out.2.2.1; omega)]
     rw [if_neg hjq, parse_other _ k q j HQ.out hjq]; exact HF.out j hj
    case measure => simp [intOf]; omega
   have hr1 : ((k : Int) % 4) = 3 := by omega
   have HP := hid (parse_step (strVal s) k q 3 x _ 16777216 (by decide) (by omega) (by have := HQ.out; omega) HX.out hb.symm)
   clear hb
   go_wp2
   go_region
   go_wp2
   go_roundw
   case rel =>
    refine ⟨k + 1, upd f q _, by omega, by go_num, (hbel.setCell (Nat.le_refl _) _).drew, (hown.set _ _).drew, fun j hj => ?_⟩
    unfold upd
    by_cases hjq : j = q
    ·rw [if_pos hjq, hjq, ← HP.out.2.2.2, parse_or x s[s.size - 1 - k].toNat 24 16777216 (by decide) (by omega) HP.out.1 HP.out.2.1 _ (by have := HP.out.2.2.1; omega)]
    rw [if_neg hjq, parse_other _ k q j HQ.out hjq]; exact HF.out j hj
   case measure => simp [intOf]; omega
  have hR : rSlice 1 rU32 wr (LT wr.heap.size) [.slice (some ⟨w.heap.size, 0, none⟩) m m] (limbsFix m (strVal s)) := by
   refine hown.reads (limbsFix_len _ _) (by unfold maxLen; have := HM.out; omega) fun j hj => ?_
   rw [limbsFix_len] at hj
   have hk' : k = s.size := by omega
   have e : strVal s % 256 ^ k = strVal s := Nat.mod_eq_of_lt (by rw [hk']; exact strVal_lt s)
   rw [HF.out j hj, e]
   have g := limbsFix_get m (strVal s) j hj
   rw [List.getElem?_eq_getElem (by rw [limbsFix_len]; exact hj)] at g
   rw [Option.some.inj g]
   exact ⟨rfl, Nat.mod_lt _ (by decide)⟩
  rw [HFX.out] at hR
  go_wp2
  go_ret
  exact ⟨_, rfl, hR, hbel⟩
set_option maxRecDepth 100000 in
set_option maxHeartbeats 1000000 in
theorem add_any (a b : ByteArray) (w : World) (ha : a.size ≤ 500000000000) (hb : b.size ≤ 500000000000) :
  Calls Tryz.prog 124 #[.string a, .string b] w fun e w' => e = .returned (.string (natStr (strVal a + strVal b))) ∧ Below w.heap.size w w' := by
 have la : (limbsOf (strVal a)).length ≤ 500000000000 := by
  refine Nat.le_trans (limbs_blen _) (Nat.le_trans ?_ ha)
  exact natBytes_len_le (strVal_lt a)
 have lb : (limbsOf (strVal b)).length ≤ 500000000000 := by
  refine Nat.le_trans (limbs_blen _) (Nat.le_trans ?_ hb)
  exact natBytes_len_le (strVal_lt b)
 have va := hid (limbsVal_limbsOf (strVal a))
 have vb := hid (limbsVal_limbsOf (strVal b))
 have H1 := hid (parse_any a w (by omega))
 go_enter Tryz.func124, Tryz.ntmps124
 go_wp2_with fail
 refine Calls.mono H1.out ?_
 rintro e w1 ⟨p, rfl, hp, hb1⟩
 go_wp2_with fail
 refine (parse_any b w1 (by omega)).mono ?_
 rintro e w2 ⟨q, rfl, hq, hb2⟩
 have hp2 := (stays_rSlice stays_rU32).below hp hb2 hb2.size
 clear hp
 have hbel := hb1.step hb2
 obtain ⟨pa, pc, rfl, p1, p2, p3, p4⟩ := u32s_open hp2
 obtain ⟨qa, qc, rfl, q1, q2, q3, q4⟩ := u32s_open hq
 by_cases hl : (limbsOf (strVal a)).length < (limbsOf (strVal b)).length
 ·skip
  obtain ⟨m, hm⟩ : ∃ m : Nat, m = (limbsOf (strVal b)).length + 1 := ⟨_, rfl⟩
  have hm1 : ((limbsOf (strVal b)).length : Int) + 1 = (m : Int) := by omega
  have hmk := fun (w : World) => make_one (P := Tryz.prog) Tryz.underlying204 Tryz.infoU32 rfl w m (by omega) (by omega)
  have HM := hid hm
  clear hm
  go_wp2
  clear hmk
  go_loopw [8, 9, 10, 28] (fun c _ _ i wr => ∃ (k c' : Nat) (ds : List Nat) (f : Nat → Value), k ≤ (limbsOf (strVal b)).length ∧ i = .int .i64 k ∧ c = .int .u32 (c' : Int) ∧ c' ≤ 1 ∧ Below w.heap.size w wr ∧ w2.heap.size < wr.heap.size ∧ Below w2.heap.size w2 wr ∧ Own wr w2.heap.size 206 m f ∧ Hid (∀ j, f j = .int .u32 ((ds.getD j 0 : Nat) : Int)) ∧ Hid (ds.length = k) ∧ Hid (∀ x ∈ ds, x < 4294967296) ∧
   Hid (limbsVal ds + 4294967296 ^ k * c' = limbsVal ((limbsOf (strVal b)).take k) + limbsVal ((limbsOf (strVal a)).take k))) (fun _ _ _ i _ => (limbsOf (strVal b)).length - (intOf i).toNat)
  case atStart => exact ⟨0, 0, [], _, Nat.zero_le _, rfl, rfl, by omega, hbel.alloc hbel.size _, by simp, (Below.refl _ _).alloc (Nat.le_refl _) _, Own.new _ _ _ _, fun j => by simp, rfl, fun x hx => by simp at hx, by simp [Hid, limbsVal]⟩
  case round =>
   obtain ⟨k, c', ds, f, hk, rfl, rfl, hc', hbw, hsz, hbw2, hown, HF, HL, HD, HV⟩ := hrel
   by_cases hlt : k < (limbsOf (strVal b)).length
   ·have hkm : k < m := by have := HM.out; omega
    rcases q4 with h0 | ⟨b1, off1, rfl, x4⟩
    ·rw [h0] at hlt; simp at hlt
    obtain ⟨g0, g1⟩ := x4.u32 hlt
    rw [← hbw2.cell (p := ⟨b1, off1 + k, none⟩) x4.1] at g0
    have c1 := hown.cell hkm
    rw [HF.out k] at c1
    have c2 := hown.frozen k
    have e1 := take_succ_getD (limbsOf (strVal b)) k
    have e2 := take_succ_getD (limbsOf (strVal a)) k
    have ex : (limbsOf (strVal b)).getD k 0 = (limbsOf (strVal b))[k] := by simp [List.getD, hlt]
    rw [ex] at e1
    have E1 := hid e1
    have E2 := hid e2
    clear e1 e2 ex
    by_cases hy : k < (limbsOf (strVal a)).length
    ·rcases p4 with h0 | ⟨b2, off2, rfl, y4⟩
     ·rw [h0] at hy; simp at hy
     obtain ⟨f0, f1⟩ := y4.u32 hy
     rw [← hbw2.cell (p := ⟨b2, off2 + k, none⟩) y4.1] at f0
     have ey := hid (show (limbsOf (strVal a)).getD k 0 = (limbsOf (strVal a))[k] by simp [List.getD, hy])
     obtain ⟨d, hd⟩ : ∃ d : Nat, (d : Int) = (((limbsOf (strVal b))[k] : Int) + ((limbsOf (strVal a))[k] : Int) + (c' : Int)) % 4294967296 := ⟨(((limbsOf (strVal b))[k] + (limbsOf (strVal a))[k] + c') % 4294967296), by omega⟩
     obtain ⟨e, he⟩ : ∃ e : Nat, (e : Int) = (((limbsOf (strVal b))[k] : Int) + ((limbsOf (strVal a))[k] : Int) + (c' : Int)) / 4294967296 := ⟨(((limbsOf (strVal b))[k] + (limbsOf (strVal a))[k] + c') / 4294967296), by omega⟩
     have hde : d + 4294967296 * e = (limbsOf (strVal b))[k] + (limbsOf (strVal a))[k] + c' := by omega
     have hd1 : d < 4294967296 := by omega
     have he1 : e ≤ 1 := by omega
     have HA := hid (add32_any ((limbsOf (strVal b))[k] : Int) ((limbsOf (strVal a))[k] : Int) (c' : Int) wr (by omega) (by omega) (by omega) (by omega) (by omega) (by omega))
     rw [← hd, ← he] at HA
     have HDE := hid hde
     clear hd he hde
     go_wp2_with fail
     refine Calls.mono HA.out ?_
     rintro e' w3 ⟨rfl, rfl⟩
     clear HA
     go_wp2
     go_roundw
     case rel =>
      refine ⟨k + 1, e, ds ++ [d], upd f k (.int .u32 d), by omega, by go_num, rfl, he1, hbw.setCell (by simpa using hbel.size) _, by simpa using hsz, hbw2.setCell (Nat.le_refl _) _, hown.set _ _, upd_snoc HL.out HF.out d, ?_, ?_, ?_⟩
      ·show (ds ++ [d]).length = k + 1; simp [HL.out]
      ·intro x hx; rcases List.mem_append.1 hx with h | h
       ·exact HD.out x h
       simp at h; omega
      show limbsVal (ds ++ [d]) + 4294967296 ^ (k + 1) * e = _
      rw [limbsVal_snoc, HL.out, E1.out, E2.out, ey.out, Nat.pow_succ, Nat.mul_assoc]
      have h1 := HV.out
      have h2 : 4294967296 ^ k * d + 4294967296 ^ k * (4294967296 * e) = 4294967296 ^ k * (limbsOf (strVal b))[k] + 4294967296 ^ k * (limbsOf (strVal a))[k] + 4294967296 ^ k * c' := by rw [← Nat.mul_add, HDE.out, Nat.mul_add, Nat.mul_add]
      omega
     case measure => simp [intOf]; omega
    have ey := hid (show (limbsOf (strVal a)).getD k 0 = 0 by simp [List.getD, List.getElem?_eq_none (by omega : (limbsOf (strVal a)).length ≤ k)])
    obtain ⟨d, hd⟩ : ∃ d : Nat, (d : Int) = (((limbsOf (strVal b))[k] : Int) + 0 + (c' : Int)) % 4294967296 := ⟨(((limbsOf (strVal b))[k] + c') % 4294967296), by omega⟩
    obtain ⟨e, he⟩ : ∃ e : Nat, (e : Int) = (((limbsOf (strVal b))[k] : Int) + 0 + (c' : Int)) / 4294967296 := ⟨(((limbsOf (strVal b))[k] + c') / 4294967296), by omega⟩
    have hde : d + 4294967296 * e = (limbsOf (strVal b))[k] + c' := by omega
    have hd1 : d < 4294967296 := by omega
    have he1 : e ≤ 1 := by omega
    have HA := hid (add32_any ((limbsOf (strVal b))[k] : Int) 0 (c' : Int) wr (by omega) (by omega) (by omega) (by omega) (by omega) (by omega))
    rw [← hd, ← he] at HA
    have HDE := hid hde
    clear hd he hde
    go_wp2_with fail
    refine Calls.mono HA.out ?_
    rintro e' w3 ⟨rfl, rfl⟩
    clear HA
    go_wp2
    go_roundw
    case rel =>
     refine ⟨k + 1, e, ds ++ [d], upd f k (.int .u32 d), by omega, by go_num, rfl, he1, hbw.setCell (by simpa using hbel.size) _, by simpa using hsz, hbw2.setCell (Nat.le_refl _) _, hown.set _ _, upd_snoc HL.out HF.out d, ?_, ?_, ?_⟩
     ·show (ds ++ [d]).length = k + 1; simp [HL.out]
     ·intro x hx; rcases List.mem_append.1 hx with h | h
      ·exact HD.out x h
      simp at h; omega
     show limbsVal (ds ++ [d]) + 4294967296 ^ (k + 1) * e = _
     rw [limbsVal_snoc, HL.out, E1.out, E2.out, ey.out, Nat.pow_succ, Nat.mul_assoc]
     have h1 := HV.out
     have h2 : 4294967296 ^ k * d + 4294967296 ^ k * (4294967296 * e) = 4294967296 ^ k * (limbsOf (strVal b))[k] + 4294967296 ^ k * c' := by rw [← Nat.mul_add, HDE.out, Nat.mul_add]
     omega
    case measure => simp [intOf]; omega
   have hk' : k = (limbsOf (strVal b)).length := by omega
   have hkm : (limbsOf (strVal b)).length < m := by have := HM.out; omega
   have hs : limbsVal (ds ++ [c']) = strVal a + strVal b := by
    have h1 := HV.out
    rw [List.take_of_length_le (by omega), List.take_of_length_le (by omega), va.out, vb.out] at h1
    rw [limbsVal_snoc, HL.out]; omega
   have HR := hid (fun ww (h : Own ww w2.heap.size 206 m (upd f (limbsOf (strVal b)).length (.int .u32 c'))) => text_any _ _ (ds ++ [c']) _ (fun _ h => h) (by simp [HL.out]; have := HM.out; omega) (own_limbs h (by rw [← hk']; exact upd_snoc HL.out HF.out c') (by simp [HL.out]; have := HM.out; omega) (by omega) (by intro x hx; rcases List.mem_append.1 hx with h | h; exact HD.out x h; simp at h; omega)))
   rw [hs] at HR
   have c1 := hown.cell hkm
   rw [HF.out] at c1
   have c2 := hown.frozen (limbsOf (strVal b)).length
   clear hs hk'
   go_wp2_with fail
   refine Calls.mono (HR.out _ (hown.set _ _)) ?_
   rintro e' w3 ⟨rfl, hb3⟩
   go_wp2
   go_ret
   exact ⟨rfl, (hbw.setCell (p := ⟨w2.heap.size, _, none⟩) hbel.size _).step hb3⟩
 skip
 obtain ⟨m, hm⟩ : ∃ m : Nat, m = (limbsOf (strVal a)).length + 1 := ⟨_, rfl⟩
 have hm1 : ((limbsOf (strVal a)).length : Int) + 1 = (m : Int) := by omega
 have hmk := fun (w : World) => make_one (P := Tryz.prog) Tryz.underlying204 Tryz.infoU32 rfl w m (by omega) (by omega)
 have HM := hid hm
 clear hm
 go_wp2
 clear hmk
 go_loopw [8, 9, 10, 28] (fun c _ _ i wr => ∃ (k c' : Nat) (ds : List Nat) (f : Nat → Value), k ≤ (limbsOf (strVal a)).length ∧ i = .int .i64 k ∧ c = .int .u32 (c' : Int) ∧ c' ≤ 1 ∧ Below w.heap.size w wr ∧ w2.heap.size < wr.heap.size ∧ Below w2.heap.size w2 wr ∧ Own wr w2.heap.size 206 m f ∧ Hid (∀ j, f j = .int .u32 ((ds.getD j 0 : Nat) : Int)) ∧ Hid (ds.length = k) ∧ Hid (∀ x ∈ ds, x < 4294967296) ∧
  Hid (limbsVal ds + 4294967296 ^ k * c' = limbsVal ((limbsOf (strVal a)).take k) + limbsVal ((limbsOf (strVal b)).take k))) (fun _ _ _ i _ => (limbsOf (strVal a)).length - (intOf i).toNat)
 case atStart => exact ⟨0, 0, [], _, Nat.zero_le _, rfl, rfl, by omega, hbel.alloc hbel.size _, by simp, (Below.refl _ _).alloc (Nat.le_refl _) _, Own.new _ _ _ _, fun j => by simp, rfl, fun x hx => by simp at hx, by simp [Hid, limbsVal]⟩
 case round =>
  obtain ⟨k, c', ds, f, hk, rfl, rfl, hc', hbw, hsz, hbw2, hown, HF, HL, HD, HV⟩ := hrel
  by_cases hlt : k < (limbsOf (strVal a)).length
  ·have hkm : k < m := by have := HM.out; omega
   rcases p4 with h0 | ⟨b1, off1, rfl, x4⟩
   ·rw [h0] at hlt; simp at hlt
   obtain ⟨g0, g1⟩ := x4.u32 hlt
   rw [← hbw2.cell (p := ⟨b1, off1 + k, none⟩) x4.1] at g0
   have c1 := hown.cell hkm
   rw [HF.out k] at c1
   have c2 := hown.frozen k
   have e1 := take_succ_getD (limbsOf (strVal a)) k
   have e2 := take_succ_getD (limbsOf (strVal b)) k
   have ex : (limbsOf (strVal a)).getD k 0 = (limbsOf (strVal a))[k] := by simp [List.getD, hlt]
   rw [ex] at e1
   have E1 := hid e1
   have E2 := hid e2
   clear e1 e2 ex
   by_cases hy : k < (limbsOf (strVal b)).length
   ·rcases q4 with h0 | ⟨b2, off2, rfl, y4⟩
    ·rw [h0] at hy; simp at hy
    obtain ⟨f0, f1⟩ := y4.u32 hy
    rw [← hbw2.cell (p := ⟨b2, off2 + k, none⟩) y4.1] at f0
    have ey := hid (show (limbsOf (strVal b)).getD k 0 = (limbsOf (strVal b))[k] by simp [List.getD, hy])
    obtain ⟨d, hd⟩ : ∃ d : Nat, (d : Int) = (((limbsOf (strVal a))[k] : Int) + ((limbsOf (strVal b))[k] : Int) + (c' : Int)) % 4294967296 := ⟨(((limbsOf (strVal a))[k] + (limbsOf (strVal b))[k] + c') % 4294967296), by omega⟩
    obtain ⟨e, he⟩ : ∃ e : Nat, (e : Int) = (((limbsOf (strVal a))[k] : Int) + ((limbsOf (strVal b))[k] : Int) + (c' : Int)) / 4294967296 := ⟨(((limbsOf (strVal a))[k] + (limbsOf (strVal b))[k] + c') / 4294967296), by omega⟩
    have hde : d + 4294967296 * e = (limbsOf (strVal a))[k] + (limbsOf (strVal b))[k] + c' := by omega
    have hd1 : d < 4294967296 := by omega
    have he1 : e ≤ 1 := by omega
    have HA := hid (add32_any ((limbsOf (strVal a))[k] : Int) ((limbsOf (strVal b))[k] : Int) (c' : Int) wr (by omega) (by omega) (by omega) (by omega) (by omega) (by omega))
    rw [← hd, ← he] at HA
    have HDE := hid hde
    clear hd he hde
    go_wp2_with fail
    refine Calls.mono HA.out ?_
    rintro e' w3 ⟨rfl, rfl⟩
    clear HA
    go_wp2
    go_roundw
    case rel =>
     refine ⟨k + 1, e, ds ++ [d], upd f k (.int .u32 d), by omega, by go_num, rfl, he1, hbw.setCell (by simpa using hbel.size) _, by simpa using hsz, hbw2.setCell (Nat.le_refl _) _, hown.set _ _, upd_snoc HL.out HF.out d, ?_, ?_, ?_⟩
     ·show (ds ++ [d]).length = k + 1; simp [HL.out]
     ·intro x hx; rcases List.mem_append.1 hx with h | h
      ·exact HD.out x h
      simp at h; omega
     show limbsVal (ds ++ [d]) + 4294967296 ^ (k + 1) * e = _
     rw [limbsVal_snoc, HL.out, E1.out, E2.out, ey.out, Nat.pow_succ, Nat.mul_assoc]
     have h1 := HV.out
     have h2 : 4294967296 ^ k * d + 4294967296 ^ k * (4294967296 * e) = 4294967296 ^ k * (limbsOf (strVal a))[k] + 4294967296 ^ k * (limbsOf (strVal b))[k] + 4294967296 ^ k * c' := by rw [← Nat.mul_add, HDE.out, Nat.mul_add, Nat.mul_add]
     omega
    case measure => simp [intOf]; omega
   have ey := hid (show (limbsOf (strVal b)).getD k 0 = 0 by simp [List.getD, List.getElem?_eq_none (by omega : (limbsOf (strVal b)).length ≤ k)])
   obtain ⟨d, hd⟩ : ∃ d : Nat, (d : Int) = (((limbsOf (strVal a))[k] : Int) + 0 + (c' : Int)) % 4294967296 := ⟨(((limbsOf (strVal a))[k] + c') % 4294967296), by omega⟩
   obtain ⟨e, he⟩ : ∃ e : Nat, (e : Int) = (((limbsOf (strVal a))[k] : Int) + 0 + (c' : Int)) / 4294967296 := ⟨(((limbsOf (strVal a))[k] + c') / 4294967296), by omega⟩
   have hde : d + 4294967296 * e = (limbsOf (strVal a))[k] + c' := by omega
   have hd1 : d < 4294967296 := by omega
   have he1 : e ≤ 1 := by omega
   have HA := hid (add32_any ((limbsOf (strVal a))[k] : Int) 0 (c' : Int) wr (by omega) (by omega) (by omega) (by omega) (by omega) (by omega))
   rw [← hd, ← he] at HA
   have HDE := hid hde
   clear hd he hde
   go_wp2_with fail
   refine Calls.mono HA.out ?_
   rintro e' w3 ⟨rfl, rfl⟩
   clear HA
   go_wp2
   go_roundw
   case rel =>
    refine ⟨k + 1, e, ds ++ [d], upd f k (.int .u32 d), by omega, by go_num, rfl, he1, hbw.setCell (by simpa using hbel.size) _, by simpa using hsz, hbw2.setCell (Nat.le_refl _) _, hown.set _ _, upd_snoc HL.out HF.out d, ?_, ?_, ?_⟩
    ·show (ds ++ [d]).length = k + 1; simp [HL.out]
    ·intro x hx; rcases List.mem_append.1 hx with h | h
     ·exact HD.out x h
     simp at h; omega
    show limbsVal (ds ++ [d]) + 4294967296 ^ (k + 1) * e = _
    rw [limbsVal_snoc, HL.out, E1.out, E2.out, ey.out, Nat.pow_succ, Nat.mul_assoc]
    have h1 := HV.out
    have h2 : 4294967296 ^ k * d + 4294967296 ^ k * (4294967296 * e) = 4294967296 ^ k * (limbsOf (strVal a))[k] + 4294967296 ^ k * c' := by rw [← Nat.mul_add, HDE.out, Nat.mul_add]
    omega
   case measure => simp [intOf]; omega
  have hk' : k = (limbsOf (strVal a)).length := by omega
  have hkm : (limbsOf (strVal a)).length < m := by have := HM.out; omega
  have hs : limbsVal (ds ++ [c']) = strVal a + strVal b := by
   have h1 := HV.out
   rw [List.take_of_length_le (by omega), List.take_of_length_le (by omega), va.out, vb.out] at h1
   rw [limbsVal_snoc, HL.out]; omega
  have HR := hid (fun ww (h : Own ww w2.heap.size 206 m (upd f (limbsOf (strVal a)).length (.int .u32 c'))) => text_any _ _ (ds ++ [c']) _ (fun _ h => h) (by simp [HL.out]; have := HM.out; omega) (own_limbs h (by rw [← hk']; exact upd_snoc HL.out HF.out c') (by simp [HL.out]; have := HM.out; omega) (by omega) (by intro x hx; rcases List.mem_append.1 hx with h | h; exact HD.out x h; simp at h; omega)))
  rw [hs] at HR
  have c1 := hown.cell hkm
  rw [HF.out] at c1
  have c2 := hown.frozen (limbsOf (strVal a)).length
  clear hs hk'
  go_wp2_with fail
  refine Calls.mono (HR.out _ (hown.set _ _)) ?_
  rintro e' w3 ⟨rfl, hb3⟩
  go_wp2
  go_ret
  exact ⟨rfl, (hbw.setCell (p := ⟨w2.heap.size, _, none⟩) hbel.size _).step hb3⟩
theorem strVal_limbs_len (a : ByteArray) : (limbsOf (strVal a)).length ≤ a.size := Nat.le_trans (limbs_blen _) (natBytes_len_le (strVal_lt a))
set_option maxRecDepth 100000 in
set_option maxHeartbeats 1000000 in
theorem subtract_any (S : Nat → Prop) (u v : Value) (x y : Nat) (w : World) (hS : ∀ b, S b → b < w.heap.size) (hl : (limbsOf x).length ≤ 1000000000000) (hyx : y ≤ x) (hu : rSlice 1 rU32 w S [u] (limbsOf x)) (hv : rSlice 1 rU32 w S [v] (limbsOf y)) :
    Calls Tryz.prog 164 #[u, v] w fun e w' => ∃ r, e = .returned r ∧ rSlice 1 rU32 w' (LT w'.heap.size) [r] (limbsOf (x - y)) ∧ Below w.heap.size w w' := by
  have hxlt := hid (limbsOf_lt x)
  have hylt := hid (limbsOf_lt y)
  have vx := hid (limbsVal_limbsOf x)
  have vy := hid (limbsVal_limbsOf y)
  have hylen : (limbsOf y).length ≤ (limbsOf x).length := by
    rcases Nat.lt_or_ge (limbsOf x).length (limbsOf y).length with h | h
    · have := limbs_len_lt h; omega
    exact h
  obtain ⟨xa, xc, rfl, x1, x2, x3, x4⟩ := u32s_open hu
  obtain ⟨ya, yc, rfl, y1, y2, y3, y4⟩ := u32s_open hv
  generalize limbsOf x = xs at *
  generalize limbsOf y = ys at *
  have hn := len_le x1 x2
  have hmk := fun (w : World) => make_one (P := Tryz.prog) Tryz.underlying204 Tryz.infoU32 rfl w xs.length (by omega) (by omega)
  go_enter Tryz.func164, Tryz.ntmps164
  go_wp2
  clear hmk
  go_loopw [6, 7, 8, 14] (fun c _ _ i wr => ∃ (k c' : Nat) (ds : List Nat) (f : Nat → Value), k ≤ xs.length ∧ i = .int .i64 k ∧ c = .int .u32 (c' : Int) ∧ c' ≤ 1 ∧ Below w.heap.size w wr ∧ w.heap.size < wr.heap.size ∧ Own wr w.heap.size 206 xs.length f ∧ Hid (∀ j, f j = .int .u32 ((ds.getD j 0 : Nat) : Int)) ∧ Hid (ds.length = k) ∧ Hid (∀ x ∈ ds, x < 4294967296) ∧
      Hid (limbsVal ds + limbsVal (ys.take k) = limbsVal (xs.take k) + 4294967296 ^ k * c')) (fun _ _ _ i _ => xs.length - (intOf i).toNat)
  case atStart => exact ⟨0, 0, [], _, Nat.zero_le _, rfl, rfl, by omega, (Below.refl _ _).alloc (Nat.le_refl _) _, by simp, Own.new _ _ _ _, fun j => by simp, rfl, fun x hx => by simp at hx, by simp [Hid, limbsVal]⟩
  case round =>
    obtain ⟨k, c', ds, f, hk, rfl, rfl, hc', hbw, hsz, hown, HF, HL, HD, HV⟩ := hrel
    by_cases hlt : k < xs.length
    · rcases x4 with rfl | ⟨b1, off1, rfl, x4⟩
      · simp at hlt
      obtain ⟨g0, g1⟩ := x4.u32 hlt
      rw [← hbw.cell (p := ⟨b1, off1 + k, none⟩) (hS _ x4.1)] at g0
      have c1 := hown.cell hlt
      rw [HF.out k] at c1
      have c2 := hown.frozen k
      have e1 := take_succ_getD xs k
      have e2 := take_succ_getD ys k
      have ex : xs.getD k 0 = xs[k] := by simp [List.getD, hlt]
      rw [ex] at e1
      have E1 := hid e1
      have E2 := hid e2
      clear e1 e2 ex
      by_cases hy : k < ys.length
      · rcases y4 with rfl | ⟨b2, off2, rfl, y4⟩
        · simp at hy
        obtain ⟨f0, f1⟩ := y4.u32 hy
        rw [← hbw.cell (p := ⟨b2, off2 + k, none⟩) (hS _ y4.1)] at f0
        have ey := hid (show ys.getD k 0 = ys[k] by simp [List.getD, hy])
        obtain ⟨d, hd⟩ : ∃ d : Nat, (d : Int) = ((xs[k] : Int) - (ys[k] : Int) - (c' : Int)) % 4294967296 := ⟨(((xs[k] : Int) - (ys[k] : Int) - (c' : Int)) % 4294967296).toNat, by omega⟩
        obtain ⟨e, he⟩ : ∃ e : Nat, (e : Int) = borrowZ (xs[k] : Int) (ys[k] : Int) (c' : Int) := ⟨(borrowZ (xs[k] : Int) (ys[k] : Int) (c' : Int)).toNat, by have := borrowZ_bd (xs[k] : Int) (ys[k] : Int) (c' : Int); omega⟩
        have hde : d + ys[k] + c' = xs[k] + 4294967296 * e := by unfold borrowZ at he; split at he <;> omega
        have hd1 : d < 4294967296 := by omega
        have he1 : e ≤ 1 := by have := borrowZ_bd (xs[k] : Int) (ys[k] : Int) (c' : Int); omega
        have HA := hid (sub32_any (xs[k] : Int) (ys[k] : Int) (c' : Int) wr (by omega) (by omega) (by omega) (by omega) (by omega) (by omega))
        rw [← hd, ← he] at HA
        have HDE := hid hde
        clear hd he hde
        go_wp2_with fail
        refine Calls.mono HA.out ?_
        rintro e' w3 ⟨rfl, rfl⟩
        clear HA
        go_wp2
        go_roundw
        case rel =>
          refine ⟨k + 1, e, ds ++ [d], upd f k (.int .u32 d), by omega, by go_num, rfl, he1, hbw.setCell (Nat.le_refl _) _, by simpa using hsz, hown.set _ _, upd_snoc HL.out HF.out d, ?_, ?_, ?_⟩
          · show (ds ++ [d]).length = k + 1; simp [HL.out]
          · intro x hx; rcases List.mem_append.1 hx with h | h
            · exact HD.out x h
            simp at h; omega
          show limbsVal (ds ++ [d]) + limbsVal (ys.take (k + 1)) = _
          rw [limbsVal_snoc, HL.out, E1.out, E2.out, ey.out, Nat.pow_succ, Nat.mul_assoc]
          have h1 := HV.out
          have h2 : 4294967296 ^ k * d + 4294967296 ^ k * ys[k] + 4294967296 ^ k * c' = 4294967296 ^ k * xs[k] + 4294967296 ^ k * (4294967296 * e) := by rw [← Nat.mul_add, ← Nat.mul_add, HDE.out, Nat.mul_add]
          omega
        case measure => simp [intOf]; omega
      have ey := hid (show ys.getD k 0 = 0 by simp [List.getD, List.getElem?_eq_none (by omega : ys.length ≤ k)])
      obtain ⟨d, hd⟩ : ∃ d : Nat, (d : Int) = ((xs[k] : Int) - 0 - (c' : Int)) % 4294967296 := ⟨(((xs[k] : Int) - 0 - (c' : Int)) % 4294967296).toNat, by omega⟩
      obtain ⟨e, he⟩ : ∃ e : Nat, (e : Int) = borrowZ (xs[k] : Int) 0 (c' : Int) := ⟨(borrowZ (xs[k] : Int) 0 (c' : Int)).toNat, by have := borrowZ_bd (xs[k] : Int) 0 (c' : Int); omega⟩
      have hde : d + c' = xs[k] + 4294967296 * e := by unfold borrowZ at he; split at he <;> omega
      have hd1 : d < 4294967296 := by omega
      have he1 : e ≤ 1 := by have := borrowZ_bd (xs[k] : Int) 0 (c' : Int); omega
      have HA := hid (sub32_any (xs[k] : Int) 0 (c' : Int) wr (by omega) (by omega) (by omega) (by omega) (by omega) (by omega))
      rw [← hd, ← he] at HA
      have HDE := hid hde
      clear hd he hde
      go_wp2_with fail
      refine Calls.mono HA.out ?_
      rintro e' w3 ⟨rfl, rfl⟩
      clear HA
      go_wp2
      go_roundw
      case rel =>
        refine ⟨k + 1, e, ds ++ [d], upd f k (.int .u32 d), by omega, by go_num, rfl, he1, hbw.setCell (Nat.le_refl _) _, by simpa using hsz, hown.set _ _, upd_snoc HL.out HF.out d, ?_, ?_, ?_⟩
        · show (ds ++ [d]).length = k + 1; simp [HL.out]
        · intro x hx; rcases List.mem_append.1 hx with h | h
          · exact HD.out x h
          simp at h; omega
        show limbsVal (ds ++ [d]) + limbsVal (ys.take (k + 1)) = _
        rw [limbsVal_snoc, HL.out, E1.out, E2.out, ey.out, Nat.pow_succ, Nat.mul_assoc]
        have h1 := HV.out
        have h2 : 4294967296 ^ k * d + 4294967296 ^ k * c' = 4294967296 ^ k * xs[k] + 4294967296 ^ k * (4294967296 * e) := by rw [← Nat.mul_add, HDE.out, Nat.mul_add]
        omega
      case measure => simp [intOf]; omega
    have hk' : k = xs.length := by omega
    have hs : limbsVal ds = x - y := by
      have h1 := HV.out
      rw [List.take_of_length_le (by omega), List.take_of_length_le (by omega), vx.out, vy.out] at h1
      have h2 := limbsVal_lt HD.out
      rw [HL.out] at h2
      have : c' = 0 ∨ c' = 1 := by omega
      rcases this with h | h
      · subst h; omega
      subst h; omega
    have hR := own_limbs hown HF.out (by rw [HL.out, hk']) (by omega) HD.out
    have HT := hid (trim_any _ _ _ _ hR)
    rw [hs] at HT
    clear hs hk' hR
    go_wp2_with fail
    refine Calls.mono HT.out ?_
    rintro e' w3 ⟨r, rfl, rfl, hr⟩
    go_wp2
    go_ret
    exact ⟨_, rfl, hr, hbw⟩
theorem Subtract_ok (a b : ByteArray) (w : World) (ha : a.size ≤ 500000000000) (hb : b.size ≤ 500000000000) (h : strVal b ≤ strVal a) :
  Calls Tryz.prog 125 #[.string a, .string b] w fun e w' => e = .returned (.tuple #[.string (natStr (strVal a - strVal b)), .bool true]) ∧ Below w.heap.size w w' := by
 have H1 := hid (parse_any a w (by omega))
 have la := strVal_limbs_len a
 have hlen : (limbsOf (strVal a - strVal b)).length ≤ 500000000000 := by
  have : strVal a - strVal b < 4294967296 ^ (limbsOf (strVal a)).length := by
   have := limbsVal_lt (limbsOf_lt (strVal a)); rw [limbsVal_limbsOf] at this; omega
  have := limbsOf_len_le this
  omega
 have hcmp : natCmp (strVal a) (strVal b) = 0 ∨ natCmp (strVal a) (strVal b) = 1 := by
  unfold natCmp; rw [if_neg (by omega)]; split <;> simp
 have HV := hid (limbsVal_limbsOf (strVal a - strVal b))
 have HH := hid h
 go_enter Tryz.func125, Tryz.ntmps125
 go_wp2_with fail
 refine Calls.mono H1.out ?_
 rintro e w1 ⟨p, rfl, hp, hb1⟩
 go_wp2_with fail
 refine (parse_any b w1 (by omega)).mono ?_
 rintro e w2 ⟨q, rfl, hq, hb2⟩
 have hp2 := (stays_rSlice stays_rU32).below hp hb2 hb2.size
 clear hp
 have hbel := hb1.step hb2
 go_wp2_with fail
 refine (compare_any _ _ _ _ _ _ (fun _ h => h) hp2 hq).mono ?_
 rintro e w3 ⟨rfl, hb3⟩
 have hp3 := (stays_rSlice stays_rU32).below hp2 hb3 hb3.size
 have hq3 := (stays_rSlice stays_rU32).below hq hb3 hb3.size
 clear hp2 hq
 have hc2 : ¬ natCmp (strVal a) (strVal b) < 0 := by omega
 have HC := hid hcmp
 clear hcmp
 go_wp2_with fail
 refine (subtract_any _ _ _ _ _ _ (fun _ h => h) (by omega) HH.out hp3 hq3).mono ?_
 rintro e w4 ⟨r, rfl, hr, hb4⟩
 go_wp2_with fail
 refine (text_any _ _ _ _ (fun _ h => h) (by omega) hr).mono ?_
 rintro e w5 ⟨rfl, hb5⟩
 rw [HV.out]
 go_wp2
 go_ret2
 exact ⟨rfl, (hbel.step hb3).step (hb4.step hb5)⟩
theorem Subtract_no (a b : ByteArray) (w : World) (ha : a.size ≤ 500000000000) (hb : b.size ≤ 500000000000) (h : strVal a < strVal b) :
  Calls Tryz.prog 125 #[.string a, .string b] w fun e w' => e = .returned (.tuple #[.string ⟨#[]⟩, .bool false]) ∧ Below w.heap.size w w' := by
 have H1 := hid (parse_any a w (by omega))
 have hcmp := natCmp_lt h
 go_enter Tryz.func125, Tryz.ntmps125
 go_wp2_with fail
 refine Calls.mono H1.out ?_
 rintro e w1 ⟨p, rfl, hp, hb1⟩
 go_wp2_with fail
 refine (parse_any b w1 (by omega)).mono ?_
 rintro e w2 ⟨q, rfl, hq, hb2⟩
 have hp2 := (stays_rSlice stays_rU32).below hp hb2 hb2.size
 clear hp
 have hbel := hb1.step hb2
 go_wp2_with fail
 refine (compare_any _ _ _ _ _ _ (fun _ h => h) hp2 hq).mono ?_
 rintro e w3 ⟨rfl, hb3⟩
 rw [hcmp]
 clear hp2 hq hcmp
 go_wp2
 go_ret2
 exact ⟨rfl, hbel.step hb3⟩
theorem limbsVal_set : ∀ (o : List Nat) (p d : Nat) (h : p < o.length), limbsVal (o.set p d) + 4294967296 ^ p * o[p] = limbsVal o + 4294967296 ^ p * d
 | x :: r, 0, d, _ => by simp [limbsVal]; omega
 | x :: r, p + 1, d, h => by
  have ih := limbsVal_set r p d (by simpa using h)
  simp only [List.set_cons_succ, limbsVal, List.getElem_cons_succ, Nat.pow_succ]
  rw [Nat.mul_comm (4294967296 ^ p) 4294967296, Nat.mul_assoc, Nat.mul_assoc]
  omega
theorem upd_set {f : Nat → Value} {o : List Nat} {p : Nat} (hp : p < o.length) (h : ∀ j, f j = .int .u32 ((o.getD j 0 : Nat) : Int)) (d : Nat) : ∀ j, upd f p (.int .u32 (d : Int)) j = .int .u32 (((o.set p d).getD j 0 : Nat) : Int) := by
 intro j
 unfold upd
 by_cases hj : j = p
 ·rw [if_pos hj, hj]; simp [List.getD, hp]
 rw [if_neg hj, h j]
 simp [List.getD, List.getElem?_set, show ¬ p = j by omega]
theorem mul_bd {u v : Nat} (hu : u < 4294967296) (hv : v < 4294967296) : u * v ≤ 18446744065119617025 := by
 have := Nat.mul_le_mul (Nat.le_of_lt_succ hu : u ≤ 4294967295) (Nat.le_of_lt_succ hv : v ≤ 4294967295)
 exact this
set_option maxRecDepth 100000 in
set_option maxHeartbeats 1000000 in
theorem Multiply_any (a b : ByteArray) (w : World) (ha : a.size ≤ 500000000000) (hb : b.size ≤ 500000000000) :
    Calls Tryz.prog 85 #[.string a, .string b] w fun e w' => e = .returned (.string (natStr (strVal a * strVal b))) ∧ Below w.heap.size w w' := by
  have la := strVal_limbs_len a
  have lb := strVal_limbs_len b
  have va := hid (limbsVal_limbsOf (strVal a))
  have vb := hid (limbsVal_limbsOf (strVal b))
  have H1 := hid (parse_any a w (by omega))
  go_enter Tryz.func85, Tryz.ntmps85
  go_wp2_with fail
  refine Calls.mono H1.out ?_
  rintro e w1 ⟨p, rfl, hp, hb1⟩
  go_wp2_with fail
  refine (parse_any b w1 (by omega)).mono ?_
  rintro e w2 ⟨q, rfl, hq, hb2⟩
  have hp2 := (stays_rSlice stays_rU32).below hp hb2 hb2.size
  clear hp
  have hbel := hb1.step hb2
  obtain ⟨pa, pc, rfl, p1, p2, p3, p4⟩ := u32s_open hp2
  obtain ⟨qa, qc, rfl, q1, q2, q3, q4⟩ := u32s_open hq
  generalize limbsOf (strVal a) = xs at *
  generalize limbsOf (strVal b) = ys at *
  obtain ⟨n, hn⟩ : ∃ n : Nat, n = xs.length + ys.length := ⟨_, rfl⟩
  have hn1 : (xs.length : Int) + (ys.length : Int) = (n : Int) := by omega
  have hmk := fun (w : World) => make_one (P := Tryz.prog) Tryz.underlying204 Tryz.infoU32 rfl w n (by omega) (by omega)
  have HN := hid hn
  clear hn
  have hxn : xs.length ≤ 9223372036854775807 := by omega
  have hyn : ys.length ≤ 9223372036854775807 := by omega
  go_wp2
  clear hmk hn1
  go_loopw [8, 9, 10, 11, 12, 13, 26] (fun _ _ _ _ _ _ i wr => ∃ (k : Nat) (o : List Nat) (f : Nat → Value), k ≤ xs.length ∧ i = .int .i64 k ∧ Below w.heap.size w wr ∧ w2.heap.size < wr.heap.size ∧ Below w2.heap.size w2 wr ∧ Own wr w2.heap.size 206 n f ∧ Hid (∀ j, f j = .int .u32 ((o.getD j 0 : Nat) : Int)) ∧ Hid (o.length = n) ∧ Hid (∀ x ∈ o, x < 4294967296) ∧
      Hid (limbsVal o = limbsVal (xs.take k) * limbsVal ys) ∧ Hid (∀ j, k + ys.length ≤ j → o.getD j 0 = 0)) (fun _ _ _ _ _ _ i _ => xs.length - (intOf i).toNat)
  case atStart =>
    refine ⟨0, List.replicate n 0, _, Nat.zero_le _, rfl, hbel.alloc hbel.size _, by simp, (Below.refl _ _).alloc (Nat.le_refl _) _, Own.new _ _ _ _, fun j => ?_, by simp [Hid], fun x hx => ?_, ?_, fun j _ => ?_⟩
    · simp [List.getD, List.getElem?_replicate]; split <;> rfl
    · have := List.eq_of_mem_replicate hx; omega
    · show limbsVal _ = limbsVal (xs.take 0) * limbsVal ys; rw [limbsVal_zeros]; simp [limbsVal]
    simp [List.getD, List.getElem?_replicate]; split <;> rfl
  case round =>
    obtain ⟨k, o, f, hk, rfl, hbw, hsz, hbw2, hown, HF, HL, HD, HV, HZ⟩ := hrel
    by_cases hlt : k < xs.length
    · rcases p4 with rfl | ⟨b1, off1, rfl, p4⟩
      · simp at hlt
      obtain ⟨g0, g1⟩ := p4.u32 hlt
      rw [← hbw2.cell (p := ⟨b1, off1 + k, none⟩) p4.1] at g0
      have hkn : k + ys.length < n := by have := HN.out; omega
      have HT := hid (limbsVal_take_succ xs k hlt)
      obtain ⟨x, hx⟩ : ∃ x, x = xs[k] := ⟨_, rfl⟩
      rw [← hx] at g0 g1 HT
      clear hx
      have hkn' : (k : Int) < (n : Int) := by omega
      obtain ⟨wo, hwo⟩ : ∃ wo : World, wo = wr := ⟨_, rfl⟩
      subst hwo
      go_wp2
      go_loopw [10, 11, 12, 13, 33] (fun c _ _ _ i wr => ∃ (m c' : Nat) (o' : List Nat) (f : Nat → Value), m ≤ ys.length ∧ i = .int .i64 m ∧ c = .int .u64 (c' : Int) ∧ c' < 4294967296 ∧ Below w.heap.size w wr ∧ w2.heap.size < wr.heap.size ∧ Below w2.heap.size w2 wr ∧ Own wr w2.heap.size 206 n f ∧ Hid (∀ j, f j = .int .u32 ((o'.getD j 0 : Nat) : Int)) ∧ Hid (o'.length = n) ∧ Hid (∀ x ∈ o', x < 4294967296) ∧
        Hid (limbsVal o' + 4294967296 ^ (k + m) * c' = limbsVal (xs.take k) * limbsVal ys + 4294967296 ^ k * (x * limbsVal (ys.take m))) ∧ Hid (∀ j, k + ys.length ≤ j → o'.getD j 0 = 0)) (fun _ _ _ _ i _ => ys.length - (intOf i).toNat)
      case atStart => exact ⟨0, 0, o, f, Nat.zero_le _, rfl, rfl, by omega, hbw, hsz, hbw2, hown, HF, HL, HD, by simp [Hid, limbsVal, HV.out], HZ⟩
      case round =>
        clear hown HF HL HD HV HZ hbw hbw2 hsz g0
        obtain ⟨m, c', o', f, hm, rfl, rfl, hc', hbw, hsz, hbw2, hown, HF, HL, HD, HV, HZ⟩ := hrel
        by_cases hmlt : m < ys.length
        · rcases q4 with rfl | ⟨b2, off2, rfl, q4⟩
          · simp at hmlt
          obtain ⟨f0, f1⟩ := q4.u32 hmlt
          rw [← hbw2.cell (p := ⟨b2, off2 + m, none⟩) q4.1] at f0
          have hp : k + m < n := by omega
          have HT2 := hid (limbsVal_take_succ ys m hmlt)
          obtain ⟨y, hy⟩ : ∃ y, y = ys[m] := ⟨_, rfl⟩
          rw [← hy] at f0 f1 HT2
          clear hy
          have c1 := hown.cell hp
          rw [HF.out] at c1
          have hpo : k + m < o'.length := by rw [HL.out]; exact hp
          have eo : o'.getD (k + m) 0 = o'[k + m] := by simp [List.getD, hpo]
          have ho : o'[k + m] < 4294967296 := HD.out _ (List.getElem_mem hpo)
          have HS := hid (fun d => limbsVal_set o' (k + m) d hpo)
          rw [eo] at c1
          obtain ⟨z, hz⟩ : ∃ z, z = o'[k + m] := ⟨_, rfl⟩
          rw [← hz] at c1 ho HS
          have c2 := hown.frozen (k + m)
          clear hz eo
          obtain ⟨d, hd⟩ : ∃ d : Nat, d = (x * y + z + c') % 4294967296 := ⟨_, rfl⟩
          obtain ⟨e, he⟩ : ∃ e : Nat, e = (x * y + z + c') / 4294967296 := ⟨_, rfl⟩
          have hmb := mul_bd g1 f1
          have hde : d + 4294967296 * e = x * y + z + c' := by omega
          have hd1 : d < 4294967296 := by omega
          have he1 : e < 4294967296 := by omega
          have e1 : IntKind.u64.wrap ((x : Int) * (y : Int)) = (x : Int) * (y : Int) := IntWalk.u64_in _ (by rw [← Int.natCast_mul]; omega)
          have e2 : IntKind.u64.wrap ((x : Int) * (y : Int) + (z : Int)) = (x : Int) * (y : Int) + (z : Int) := IntWalk.u64_in _ (by rw [← Int.natCast_mul]; omega)
          have e3 : IntKind.u64.wrap ((x : Int) * (y : Int) + (z : Int) + (c' : Int)) = (x : Int) * (y : Int) + (z : Int) + (c' : Int) := IntWalk.u64_in _ (by rw [← Int.natCast_mul]; omega)
          have HDE := hid hde
          have Hd := hid (show ((x : Int) * (y : Int) + (z : Int) + (c' : Int)) % 4294967296 = (d : Int) by rw [← Int.natCast_mul]; omega)
          have He := hid (show ((x : Int) * (y : Int) + (z : Int) + (c' : Int)) / 4294967296 = (e : Int) by rw [← Int.natCast_mul]; omega)
          clear hmb hd he hde
          go_wp2
          clear e1 e2 e3
          go_roundw
          case rel =>
            rw [Hd.out, He.out]
            refine ⟨m + 1, e, o'.set (k + m) d, upd f (k + m) (.int .u32 d), by omega, by go_num, rfl, he1, hbw.setCell (p := ⟨w2.heap.size, _, none⟩) hbel.size _, by simpa using hsz, hbw2.setCell (Nat.le_refl _) _, hown.set _ _, upd_set hpo HF.out d, ?_, ?_, ?_, ?_⟩
            · show (o'.set (k + m) d).length = n; simp [HL.out]
            · intro u hu
              rcases List.mem_or_eq_of_mem_set hu with h | h
              · exact HD.out u h
              omega
            · show limbsVal (o'.set (k + m) d) + 4294967296 ^ (k + (m + 1)) * e = _
              have h1 := HV.out
              have h2 := HS.out d
              rw [HT2.out, ← Nat.add_assoc k m 1, Nat.pow_succ, Nat.mul_assoc]
              have h3 : 4294967296 ^ (k + m) * d + 4294967296 ^ (k + m) * (4294967296 * e) = 4294967296 ^ (k + m) * (x * y) + 4294967296 ^ (k + m) * z + 4294967296 ^ (k + m) * c' := by rw [← Nat.mul_add, HDE.out, Nat.mul_add, Nat.mul_add]
              have h4 : 4294967296 ^ k * (x * (limbsVal (ys.take m) + 4294967296 ^ m * y)) = 4294967296 ^ k * (x * limbsVal (ys.take m)) + 4294967296 ^ (k + m) * (x * y) := by
                rw [Nat.mul_add, Nat.mul_add, Nat.pow_add, Nat.mul_assoc (4294967296 ^ k)]
                congr 2
                rw [Nat.mul_left_comm]
              rw [h4]
              omega
            intro j hj
            have := HZ.out j hj
            simpa [List.getD, List.getElem?_set, show ¬ k + m = j by omega] using this
          case measure => simp [intOf]; omega
        have hm' : m = ys.length := by omega
        have hp : k + ys.length < o'.length := by rw [HL.out]; exact hkn
        have c1 := hown.cell hkn
        rw [HF.out] at c1
        have c2 := hown.frozen (k + ys.length)
        have hV2 : limbsVal (o'.set (k + ys.length) c') = limbsVal (xs.take (k + 1)) * limbsVal ys := by
          have h1 := HV.out
          have h2 := limbsVal_set o' (k + ys.length) c' hp
          have h3 := HZ.out (k + ys.length) (Nat.le_refl _)
          simp only [List.getD, List.getElem?_eq_getElem hp, Option.getD_some] at h3
          rw [h3] at h2
          rw [hm', List.take_length] at h1
          rw [HT.out, Nat.add_mul, Nat.mul_assoc]
          omega
        have HV2 := hid hV2
        clear hV2 hm'
        go_wp2
        go_roundw
        case rel =>
          refine ⟨k + 1, o'.set (k + ys.length) c', upd f (k + ys.length) (.int .u32 c'), by omega, by go_num, hbw.setCell (p := ⟨w2.heap.size, _, none⟩) hbel.size _, by simpa using hsz, hbw2.setCell (Nat.le_refl _) _, hown.set _ _, upd_set hp HF.out c', ?_, ?_, HV2.out, ?_⟩
          · show (o'.set _ _).length = n; simp [HL.out]
          · intro u hu
            rcases List.mem_or_eq_of_mem_set hu with h | h
            · exact HD.out u h
            omega
          intro j hj
          have := HZ.out j (by omega)
          simpa [List.getD, List.getElem?_set, show ¬ k + ys.length = j by omega] using this
        case measure => simp [intOf]; omega
    have hs : limbsVal o = strVal a * strVal b := by
      have h1 := HV.out
      rw [List.take_of_length_le (by omega), va.out, vb.out] at h1
      exact h1
    have HR := hid (text_any _ _ o _ (fun _ h => h) (by rw [HL.out]; have := HN.out; omega) (own_limbs hown HF.out HL.out (by have := HN.out; omega) HD.out))
    rw [hs] at HR
    clear hs
    go_wp2_with fail
    refine Calls.mono HR.out ?_
    rintro e' w3 ⟨rfl, hb3⟩
    go_wp2
    go_ret
    exact ⟨rfl, hbw.step hb3⟩
theorem or32_add (r x : Nat) (hr : r < 4294967296) (hx : x < 4294967296) : bits .or .u64 ((r : Int) * 4294967296) (x : Int) = ((r * 4294967296 + x : Nat) : Int) := by
 have e : (r : Int) * 4294967296 = ((r * 2 ^ 32 : Nat) : Int) := by rw [Int.natCast_mul]; rfl
 rw [e, u64_or_nat _ _ (by omega) (by omega), Nat.or_comm, or_add x r 32 (by omega)]
set_option maxRecDepth 100000 in
set_option maxHeartbeats 1000000 in
theorem divideSmall_any (S : Nat → Prop) (u : Value) (xs : List Nat) (d : Nat) (w : World) (hS : ∀ b, S b → b < w.heap.size) (hl : xs.length ≤ 1000000000000) (hd0 : 0 < d) (hd : d < 4294967296) (hu : rSlice 1 rU32 w S [u] xs) :
    Calls Tryz.prog 212 #[u, .int .u32 d] w fun e w' => ∃ r, e = .returned (.tuple #[r, .int .u32 ((limbsVal xs % d : Nat) : Int)]) ∧ rSlice 1 rU32 w' (LT w'.heap.size) [r] (limbsOf (limbsVal xs / d)) ∧ Below w.heap.size w w' := by
  have hxlt := hid (u32s_lt hu)
  obtain ⟨xa, xc, rfl, x1, x2, x3, x4⟩ := u32s_open hu
  have hn := len_le x1 x2
  have hmk := fun (w : World) => make_one (P := Tryz.prog) Tryz.underlying204 Tryz.infoU32 rfl w xs.length (by omega) (by omega)
  go_enter Tryz.func212, Tryz.ntmps212
  go_wp2
  clear hmk
  go_loopw [7, 8, 9] (fun r i _ wr => ∃ (k r' : Nat) (o : List Nat) (f : Nat → Value), k ≤ xs.length ∧ i = .int .i64 ((k : Int) - 1) ∧ r = .int .u64 (r' : Int) ∧ r' < d ∧ Below w.heap.size w wr ∧ w.heap.size < wr.heap.size ∧ Own wr w.heap.size 206 xs.length f ∧ Hid (∀ j, f j = .int .u32 ((o.getD j 0 : Nat) : Int)) ∧ Hid (o.length = xs.length) ∧ Hid (∀ x ∈ o, x < 4294967296) ∧
      Hid (limbsVal (xs.drop k) = limbsVal (o.drop k) * d + r')) (fun _ i _ _ => (intOf i + 1).toNat)
  case atStart =>
    refine ⟨xs.length, 0, List.replicate xs.length 0, _, Nat.le_refl _, rfl, rfl, hd0, (Below.refl _ _).alloc (Nat.le_refl _) _, by simp, Own.new _ _ _ _, fun j => ?_, by simp [Hid], fun x hx => ?_, ?_⟩
    · simp [List.getD, List.getElem?_replicate]; split <;> rfl
    · have := List.eq_of_mem_replicate hx; omega
    show limbsVal (xs.drop xs.length) = _
    rw [List.drop_length, List.drop_of_length_le (by simp)]; simp [limbsVal]
  case round =>
    obtain ⟨k, r', o, f, hk, rfl, rfl, hr', hbw, hsz, hown, HF, HL, HD, HV⟩ := hrel
    cases k with
    | zero =>
      have hs := HV.out
      rw [List.drop_zero, List.drop_zero] at hs
      have hq : limbsVal o = limbsVal xs / d := by rw [hs, Nat.mul_comm, Nat.mul_add_div hd0, Nat.div_eq_of_lt hr']; rfl
      have hrm : limbsVal xs % d = r' := by rw [hs, Nat.mul_comm, Nat.mul_add_mod, Nat.mod_eq_of_lt hr']
      have hR := own_limbs hown HF.out HL.out (by omega) HD.out
      have HT := hid (trim_any _ _ _ _ hR)
      rw [hq] at HT
      have HRM := hid hrm
      clear hs hq hR hrm
      have hr32 : r' < 4294967296 := by omega
      go_wp2_with fail
      refine Calls.mono HT.out ?_
      rintro e' w3 ⟨r, rfl, rfl, hr⟩
      go_wp2
      go_ret2
      exact ⟨r, by rw [HRM.out]; rfl, hr, hbw⟩
    | succ k =>
      rw [show (((k + 1 : Nat) : Int) - 1) = (k : Int) by omega]
      have hlt : k < xs.length := by omega
      rcases x4 with rfl | ⟨b1, off1, rfl, x4⟩
      · simp at hlt
      obtain ⟨g0, g1⟩ := x4.u32 hlt
      rw [← hbw.cell (p := ⟨b1, off1 + k, none⟩) (hS _ x4.1)] at g0
      have c1 := hown.cell hlt
      rw [HF.out k] at c1
      have c2 := hown.frozen k
      have hr32 : r' < 4294967296 := by omega
      obtain ⟨x, hx⟩ : ∃ x, x = xs[k] := ⟨_, rfl⟩
      have HX := hid (show limbsVal (xs.drop k) = x + 4294967296 * limbsVal (xs.drop (k + 1)) by rw [hx, List.drop_eq_getElem_cons hlt]; rfl)
      rw [← hx] at g0 g1
      clear hx
      have o1 := or32_add r' x hr32 g1
      obtain ⟨q, hq⟩ : ∃ q : Nat, q = (r' * 4294967296 + x) / d := ⟨_, rfl⟩
      obtain ⟨r2, hr2⟩ : ∃ r2 : Nat, r2 = (r' * 4294967296 + x) % d := ⟨_, rfl⟩
      have hqr : d * q + r2 = r' * 4294967296 + x := by rw [hq, hr2]; exact Nat.div_add_mod _ _
      have hr2d : r2 < d := by rw [hr2]; exact Nat.mod_lt _ hd0
      have hq32 : q < 4294967296 := by
        rw [hq]
        apply Nat.div_lt_of_lt_mul
        have := Nat.mul_le_mul_right 4294967296 (show r' + 1 ≤ d from hr')
        rw [Nat.add_mul] at this
        omega
      have Q1 := hid (show (((r' : Int) * 4294967296 + (x : Int)) / (d : Int)) % 4294967296 = (q : Int) by
        have : ((r' : Int) * 4294967296 + (x : Int)) / (d : Int) = (q : Int) := by rw [hq, Int.natCast_ediv, Int.natCast_add, Int.natCast_mul]; rfl
        rw [this]; omega)
      have Q2 := hid (show (((r' : Int) * 4294967296 + (x : Int)) % (d : Int)) = (r2 : Int) by rw [hr2, Int.natCast_emod, Int.natCast_add, Int.natCast_mul]; rfl)
      have HQR := hid hqr
      clear hq hr2 hqr
      go_wp2
      clear o1
      go_roundw
      case rel =>
        rw [Q1.out, Q2.out]
        have hko : k < o.length := by rw [HL.out]; exact hlt
        refine ⟨k, r2, o.set k q, upd f k (.int .u32 q), by omega, rfl, rfl, hr2d, hbw.setCell (Nat.le_refl _) _, by simpa using hsz, hown.set _ _, upd_set hko HF.out q, ?_, ?_, ?_⟩
        · show (o.set k q).length = _; simp [HL.out]
        · intro u hu
          rcases List.mem_or_eq_of_mem_set hu with h | h
          · exact HD.out u h
          omega
        show limbsVal (xs.drop k) = limbsVal ((o.set k q).drop k) * d + r2
        have e : (o.set k q).drop k = q :: o.drop (k + 1) := by
          rw [List.drop_eq_getElem_cons (by simpa using hko), List.drop_set_of_lt (by omega)]
          simp
        rw [HX.out, HV.out, e]
        show _ = (q + 4294967296 * limbsVal (o.drop (k + 1))) * d + r2
        have h1 := HQR.out
        rw [Nat.add_mul, Nat.mul_add, Nat.mul_assoc 4294967296, Nat.mul_comm q d]
        omega
      case measure => simp [intOf]
set_option maxRecDepth 100000 in
set_option maxHeartbeats 1000000 in
theorem order_any (S : Nat → Prop) (u v : Value) (x y : Nat) (w : World) (hS : ∀ b, S b → b < w.heap.size) (hu : rSlice 1 rU32 w S [u] (limbsOf x)) (hv : rSlice 1 rU32 w S [v] (limbsOf y)) :
  Calls Tryz.prog 189 #[u, v] w fun e w' => e = .returned (.int .i64 (natCmp x y)) ∧ Below w.heap.size w w' := by
 obtain ⟨a, cap, rfl, h1, h2, h3, h4⟩ := u32s_open hu
 obtain ⟨a', cap', rfl, h1', h2', h3', h4'⟩ := u32s_open hv
 have hn := len_le h1 h2
 have hn' := len_le h1' h2'
 rcases Nat.lt_trichotomy (limbsOf x).length (limbsOf y).length with hl | hl | hl
 ·have hR := hid (natCmp_lt (limbs_len_lt hl))
  have hl' : ((limbsOf x).length != (limbsOf y).length) = true := by simp; omega
  have hl2 : ¬ (((limbsOf x).length : Int) = ((limbsOf y).length : Int)) := by omega
  go_enter Tryz.func189, Tryz.ntmps189
  go_wp2
  go_ret
  exact ⟨ret_int hR.out.symm, Below.refl _ _⟩
 ·have HL := hid hl
  rw [← hl]
  clear hl
  go_enter Tryz.func189, Tryz.ntmps189
  go_wp2
  go_loopw [5] (fun i wr => ∃ k : Nat, k ≤ (limbsOf x).length ∧ i = .int .i64 ((k : Int) - 1) ∧ Below w.heap.size w wr ∧ Hid ((limbsOf x).drop k = (limbsOf y).drop k)) (fun i _ => (intOf i + 1).toNat)
  case atStart => exact ⟨_, Nat.le_refl _, rfl, Below.refl _ _, by show (limbsOf x).drop (limbsOf x).length = (limbsOf y).drop (limbsOf x).length; rw [List.drop_length, HL.out, List.drop_length]⟩
  case round =>
   obtain ⟨k, hk, rfl, hbel, HE⟩ := hrel
   cases k with
   | zero =>
    have hxy : x = y := by
     have := HE.out
     rw [List.drop_zero, List.drop_zero] at this
     have := congrArg limbsVal this
     rwa [limbsVal_limbsOf, limbsVal_limbsOf] at this
    have hR : Hid (natCmp x y = 0) := by subst hxy; exact natCmp_eq _
    clear hxy
    go_wp2
    go_ret
    exact ⟨ret_int hR.out.symm, hbel⟩
   | succ k =>
    rw [show (((k + 1 : Nat) : Int) - 1) = (k : Int) by omega]
    have hlt : k < (limbsOf x).length := by omega
    have hlt' : k < (limbsOf y).length := by have := HL.out; omega
    rcases h4 with h4 | ⟨b, off, rfl, h4⟩
    ·rw [h4] at hlt; simp at hlt
    rcases h4' with h4' | ⟨b', off', rfl, h4'⟩
    ·rw [h4'] at hlt'; simp at hlt'
    obtain ⟨g0, g1⟩ := h4.u32 hlt
    rw [← hbel.cell (p := ⟨b, off + k, none⟩) (hS _ h4.1)] at g0
    obtain ⟨f0, f1⟩ := h4'.u32 hlt'
    rw [← hbel.cell (p := ⟨b', off' + k, none⟩) (hS _ h4'.1)] at f0
    have HX := hid (limbsOf_lt x)
    have HY := hid (limbsOf_lt y)
    have HVX := hid (limbsVal_limbsOf x)
    have HVY := hid (limbsVal_limbsOf y)
    rcases Nat.lt_trichotomy (limbsOf x)[k] (limbsOf y)[k] with hc | hc | hc
    ·have hR : Hid (natCmp x y = -1) := natCmp_lt (by rw [← HVX.out, ← HVY.out]; exact limbs_lt_of_top HX.out HL.out k hlt hlt' HE.out hc)
     have q1 : (((limbsOf x)[k] : Int) != ((limbsOf y)[k] : Int)) = true := by rw [bne_iff_ne]; omega
     have q1' : ((limbsOf x)[k] != (limbsOf y)[k]) = true := by rw [bne_iff_ne]; omega
     go_wp2
     go_quiet (fail)
     go_wp2
     go_quiet (fail)
     go_wp2
     go_ret
     exact ⟨ret_int hR.out.symm, (hbel.drewN _).drewN _⟩
    ·have q1 : (((limbsOf x)[k] : Int) != ((limbsOf y)[k] : Int)) = false := by simp [hc]
     have q1' : ((limbsOf x)[k] != (limbsOf y)[k]) = false := by simp [hc]
     have HC := hid hc
     clear hc
     go_wp2
     go_quiet (fail)
     go_wp2
     go_roundw
     case rel => exact ⟨k, by omega, rfl, hbel.drewN _, by show (limbsOf x).drop k = (limbsOf y).drop k; rw [List.drop_eq_getElem_cons hlt, List.drop_eq_getElem_cons hlt', HC.out, HE.out]⟩
     case measure => simp [intOf]
    have hR : Hid (natCmp x y = 1) := natCmp_gt (by rw [← HVX.out, ← HVY.out]; exact limbs_lt_of_top HY.out HL.out.symm k hlt' hlt HE.out.symm hc)
    have q1 : (((limbsOf x)[k] : Int) != ((limbsOf y)[k] : Int)) = true := by rw [bne_iff_ne]; omega
    have q1' : ((limbsOf x)[k] != (limbsOf y)[k]) = true := by rw [bne_iff_ne]; omega
    have q2 : ¬ (limbsOf x)[k] < (limbsOf y)[k] := by omega
    go_wp2
    go_quiet (fail)
    go_wp2
    go_quiet (fail)
    go_wp2
    go_ret
    exact ⟨ret_int hR.out.symm, (hbel.drewN _).drewN _⟩
 have hR := hid (natCmp_gt (limbs_len_lt hl))
 have hl' : ((limbsOf x).length != (limbsOf y).length) = true := by simp; omega
 have hl2 : ¬ (((limbsOf x).length : Int) = ((limbsOf y).length : Int)) := by omega
 go_enter Tryz.func189, Tryz.ntmps189
 go_wp2
 go_ret
 exact ⟨ret_int hR.out.symm, Below.refl _ _⟩
set_option maxRecDepth 100000 in
set_option maxHeartbeats 1000000 in
theorem short_any (S : Nat → Prop) (u : Value) (xs : List Nat) (d : Nat) (w : World) (hS : ∀ b, S b → b < w.heap.size) (hl : xs.length ≤ 1000000000000) (hd0 : 0 < d) (hd : d < 4294967296) (hu : rSlice 1 rU32 w S [u] xs) :
    Calls Tryz.prog 234 #[u, .int .u32 d] w fun e w' => ∃ r, e = .returned (.tuple #[r, .int .u32 ((limbsVal xs % d : Nat) : Int)]) ∧ rSlice 1 rU32 w' (LT w'.heap.size) [r] (limbsOf (limbsVal xs / d)) ∧ Below w.heap.size w w' := by
  have hxlt := hid (u32s_lt hu)
  obtain ⟨xa, xc, rfl, x1, x2, x3, x4⟩ := u32s_open hu
  have hn := len_le x1 x2
  have hmk := fun (w : World) => make_one (P := Tryz.prog) Tryz.underlying203 Tryz.infoU32 rfl w xs.length (by omega) (by omega)
  go_enter Tryz.func234, Tryz.ntmps234
  go_wp2
  clear hmk
  go_loopw [7, 8] (fun r i wr => ∃ (k r' : Nat) (o : List Nat) (f : Nat → Value), k ≤ xs.length ∧ i = .int .i64 ((k : Int) - 1) ∧ r = .int .u64 (r' : Int) ∧ r' < d ∧ Below w.heap.size w wr ∧ w.heap.size < wr.heap.size ∧ Own wr w.heap.size 206 xs.length f ∧ Hid (∀ j, f j = .int .u32 ((o.getD j 0 : Nat) : Int)) ∧ Hid (o.length = xs.length) ∧ Hid (∀ x ∈ o, x < 4294967296) ∧
      Hid (limbsVal (xs.drop k) = limbsVal (o.drop k) * d + r')) (fun _ i _ => (intOf i + 1).toNat)
  case atStart =>
    refine ⟨xs.length, 0, List.replicate xs.length 0, _, Nat.le_refl _, rfl, rfl, hd0, (Below.refl _ _).alloc (Nat.le_refl _) _, by simp, Own.new _ _ _ _, fun j => ?_, by simp [Hid], fun x hx => ?_, ?_⟩
    · simp [List.getD, List.getElem?_replicate]; split <;> rfl
    · have := List.eq_of_mem_replicate hx; omega
    show limbsVal (xs.drop xs.length) = _
    rw [List.drop_length, List.drop_of_length_le (by simp)]; simp [limbsVal]
  case round =>
    obtain ⟨k, r', o, f, hk, rfl, rfl, hr', hbw, hsz, hown, HF, HL, HD, HV⟩ := hrel
    cases k with
    | zero =>
      have hs := HV.out
      rw [List.drop_zero, List.drop_zero] at hs
      have hq : limbsVal o = limbsVal xs / d := by rw [hs, Nat.mul_comm, Nat.mul_add_div hd0, Nat.div_eq_of_lt hr']; rfl
      have hrm : limbsVal xs % d = r' := by rw [hs, Nat.mul_comm, Nat.mul_add_mod, Nat.mod_eq_of_lt hr']
      have hR := own_limbs hown HF.out HL.out (by omega) HD.out
      have HT := hid (strip_any _ _ _ _ hR)
      rw [hq] at HT
      have HRM := hid hrm
      clear hs hq hR hrm
      have hr32 : r' < 4294967296 := by omega
      go_wp2_with fail
      refine Calls.mono HT.out ?_
      rintro e' w3 ⟨r, rfl, rfl, hr⟩
      go_wp2
      go_ret2
      exact ⟨r, by rw [HRM.out]; rfl, hr, hbw⟩
    | succ k =>
      rw [show (((k + 1 : Nat) : Int) - 1) = (k : Int) by omega]
      have hlt : k < xs.length := by omega
      rcases x4 with rfl | ⟨b1, off1, rfl, x4⟩
      · simp at hlt
      obtain ⟨g0, g1⟩ := x4.u32 hlt
      rw [← hbw.cell (p := ⟨b1, off1 + k, none⟩) (hS _ x4.1)] at g0
      have c1 := hown.cell hlt
      rw [HF.out k] at c1
      have c2 := hown.frozen k
      have hr32 : r' < 4294967296 := by omega
      obtain ⟨x, hx⟩ : ∃ x, x = xs[k] := ⟨_, rfl⟩
      have HX := hid (show limbsVal (xs.drop k) = x + 4294967296 * limbsVal (xs.drop (k + 1)) by rw [hx, List.drop_eq_getElem_cons hlt]; rfl)
      rw [← hx] at g0 g1
      clear hx
      have o1 := or32_add r' x hr32 g1
      obtain ⟨q, hq⟩ : ∃ q : Nat, q = (r' * 4294967296 + x) / d := ⟨_, rfl⟩
      obtain ⟨r2, hr2⟩ : ∃ r2 : Nat, r2 = (r' * 4294967296 + x) % d := ⟨_, rfl⟩
      have hqr : d * q + r2 = r' * 4294967296 + x := by rw [hq, hr2]; exact Nat.div_add_mod _ _
      have hr2d : r2 < d := by rw [hr2]; exact Nat.mod_lt _ hd0
      have hq32 : q < 4294967296 := by
        rw [hq]
        apply Nat.div_lt_of_lt_mul
        have := Nat.mul_le_mul_right 4294967296 (show r' + 1 ≤ d from hr')
        rw [Nat.add_mul] at this
        omega
      have Q1 := hid (show (((r' : Int) * 4294967296 + (x : Int)) / (d : Int)) % 4294967296 = (q : Int) by
        have : ((r' : Int) * 4294967296 + (x : Int)) / (d : Int) = (q : Int) := by rw [hq, Int.natCast_ediv, Int.natCast_add, Int.natCast_mul]; rfl
        rw [this]; omega)
      have Q2 := hid (show (((r' : Int) * 4294967296 + (x : Int)) % (d : Int)) = (r2 : Int) by rw [hr2, Int.natCast_emod, Int.natCast_add, Int.natCast_mul]; rfl)
      have HQR := hid hqr
      clear hq hr2 hqr
      go_wp2
      clear o1
      go_roundw
      case rel =>
        rw [Q1.out, Q2.out]
        have hko : k < o.length := by rw [HL.out]; exact hlt
        refine ⟨k, r2, o.set k q, upd f k (.int .u32 q), by omega, rfl, rfl, hr2d, hbw.setCell (Nat.le_refl _) _, by simpa using hsz, hown.set _ _, upd_set hko HF.out q, ?_, ?_, ?_⟩
        · show (o.set k q).length = _; simp [HL.out]
        · intro u hu
          rcases List.mem_or_eq_of_mem_set hu with h | h
          · exact HD.out u h
          omega
        show limbsVal (xs.drop k) = limbsVal ((o.set k q).drop k) * d + r2
        have e : (o.set k q).drop k = q :: o.drop (k + 1) := by
          rw [List.drop_eq_getElem_cons (by simpa using hko), List.drop_set_of_lt (by omega)]
          simp
        rw [HX.out, HV.out, e]
        show _ = (q + 4294967296 * limbsVal (o.drop (k + 1))) * d + r2
        have h1 := HQR.out
        rw [Nat.add_mul, Nat.mul_add, Nat.mul_assoc 4294967296, Nat.mul_comm q d]
        omega
      case measure => simp [intOf]

end Go.Proofs.YtokmkopihhnggaaGreatDoor
