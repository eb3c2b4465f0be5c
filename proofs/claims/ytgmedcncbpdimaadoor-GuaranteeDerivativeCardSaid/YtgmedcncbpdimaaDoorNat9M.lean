/- natural: subtract, Subtract: walked. -/
import Derived.Test.YtgmedcncbpdimaaDoorNat8M
set_option linter.unusedVariables false
set_option linter.unusedSimpArgs false
/- natural: subtract, Subtract: walked. -/
namespace Go.Proofs.YtgmedcncbpdimaaDoor
open Go.RowKit

theorem strVal_limbs_len (a : ByteArray) : (limbsOf (strVal a)).length ≤ a.size := Nat.le_trans (limbs_blen _) (natBytes_len_le (strVal_lt a))

set_option maxRecDepth 100000 in
set_option maxHeartbeats 1000000 in
theorem subtract_any (S : Nat → Prop) (u v : Value) (x y : Nat) (w : World) (hS : ∀ b, S b → b < w.heap.size) (hl : (limbsOf x).length ≤ 1000000000000) (hyx : y ≤ x) (hu : rSlice 1 rU32 w S [u] (limbsOf x)) (hv : rSlice 1 rU32 w S [v] (limbsOf y)) :
    Calls Tryd.prog 95 #[u, v] w fun e w' => ∃ r, e = .returned r ∧ rSlice 1 rU32 w' (LT w'.heap.size) [r] (limbsOf (x - y)) ∧ Below w.heap.size w w' := by
  have hxlt := hid (limbsOf_lt x)
  have hylt := hid (limbsOf_lt y)
  have vx := hid (limbsVal_limbsOf x)
  have vy := hid (limbsVal_limbsOf y)
  have hylen : (limbsOf y).length ≤ (limbsOf x).length := by
    rcases Nat.lt_or_ge (limbsOf x).length (limbsOf y).length with h | h
    · have := limbs_len_lt h; omega
    · exact h
  obtain ⟨xa, xc, rfl, x1, x2, x3, x4⟩ := u32s_open hu
  obtain ⟨ya, yc, rfl, y1, y2, y3, y4⟩ := u32s_open hv
  generalize limbsOf x = xs at *
  generalize limbsOf y = ys at *
  have hn := len_le x1 x2
  have hmk := fun (w : World) => make_one (P := Tryd.prog) Tryd.underlying83 Tryd.infoU32 rfl w xs.length (by omega) (by omega)
  go_enter Tryd.func95, Tryd.ntmps95
  go_wp2
  clear hmk
  go_loopw [6, 7, 8, 14] (fun c _ _ i wr => ∃ (k c' : Nat) (ds : List Nat) (f : Nat → Value), k ≤ xs.length ∧ i = .int .i64 k ∧ c = .int .u32 (c' : Int) ∧ c' ≤ 1 ∧ Below w.heap.size w wr ∧ w.heap.size < wr.heap.size ∧ Own wr w.heap.size 85 xs.length f ∧ Hid (∀ j, f j = .int .u32 ((ds.getD j 0 : Nat) : Int)) ∧ Hid (ds.length = k) ∧ Hid (∀ x ∈ ds, x < 4294967296) ∧
      Hid (limbsVal ds + limbsVal (ys.take k) = limbsVal (xs.take k) + 4294967296 ^ k * c')) (fun _ _ _ i _ => xs.length - (intOf i).toNat)
  case atStart => exact ⟨0, 0, [], _, Nat.zero_le _, rfl, rfl, by omega, (Below.refl _ _).alloc (Nat.le_refl _) _, by simp, Own.new _ _ _ _, fun j => by simp, rfl, fun x hx => by simp at hx, by simp [Hid, limbsVal]⟩
  case round =>
    obtain ⟨k, c', ds, f, hk, rfl, rfl, hc', hbw, hsz, hown, HF, HL, HD, HV⟩ := hrel
    by_cases hlt : k < xs.length
    · rcases x4 with rfl | ⟨b1, off1, rfl, x4⟩
      · simp at hlt
      obtain ⟨g0, g1⟩ := x4.u32 hlt
      rw [← hbw.cell (p := ⟨b1, off1 + k, none⟩) (hS _ x4.1)] at g0
      have c1 := hown.cell hlt
      rw [HF.out k] at c1
      have c2 := hown.frozen k
      have e1 := take_succ_getD xs k
      have e2 := take_succ_getD ys k
      have ex : xs.getD k 0 = xs[k] := by simp [List.getD, hlt]
      rw [ex] at e1
      have E1 := hid e1
      have E2 := hid e2
      clear e1 e2 ex
      by_cases hy : k < ys.length
      · rcases y4 with rfl | ⟨b2, off2, rfl, y4⟩
        · simp at hy
        obtain ⟨f0, f1⟩ := y4.u32 hy
        rw [← hbw.cell (p := ⟨b2, off2 + k, none⟩) (hS _ y4.1)] at f0
        have ey := hid (show ys.getD k 0 = ys[k] by simp [List.getD, hy])
        obtain ⟨d, hd⟩ : ∃ d : Nat, (d : Int) = ((xs[k] : Int) - (ys[k] : Int) - (c' : Int)) % 4294967296 := ⟨(((xs[k] : Int) - (ys[k] : Int) - (c' : Int)) % 4294967296).toNat, by omega⟩
        obtain ⟨e, he⟩ : ∃ e : Nat, (e : Int) = borrowZ (xs[k] : Int) (ys[k] : Int) (c' : Int) := ⟨(borrowZ (xs[k] : Int) (ys[k] : Int) (c' : Int)).toNat, by have := borrowZ_bd (xs[k] : Int) (ys[k] : Int) (c' : Int); omega⟩
        have hde : d + ys[k] + c' = xs[k] + 4294967296 * e := by unfold borrowZ at he; split at he <;> omega
        have hd1 : d < 4294967296 := by omega
        have he1 : e ≤ 1 := by have := borrowZ_bd (xs[k] : Int) (ys[k] : Int) (c' : Int); omega
        have HA := hid (sub32_any (xs[k] : Int) (ys[k] : Int) (c' : Int) wr (by omega) (by omega) (by omega) (by omega) (by omega) (by omega))
        rw [← hd, ← he] at HA
        have HDE := hid hde
        clear hd he hde
        go_wp2_with fail
        refine Calls.mono HA.out ?_
        rintro e' w3 ⟨rfl, rfl⟩
        clear HA
        go_wp2
        go_roundw
        case rel =>
          refine ⟨k + 1, e, ds ++ [d], upd f k (.int .u32 d), by omega, by go_num, rfl, he1, hbw.setCell (Nat.le_refl _) _, by simpa using hsz, hown.set _ _, upd_snoc HL.out HF.out d, ?_, ?_, ?_⟩
          · show (ds ++ [d]).length = k + 1; simp [HL.out]
          · intro x hx; rcases List.mem_append.1 hx with h | h
            · exact HD.out x h
            · simp at h; omega
          · show limbsVal (ds ++ [d]) + limbsVal (ys.take (k + 1)) = _
            rw [limbsVal_snoc, HL.out, E1.out, E2.out, ey.out, Nat.pow_succ, Nat.mul_assoc]
            have h1 := HV.out
            have h2 : 4294967296 ^ k * d + 4294967296 ^ k * ys[k] + 4294967296 ^ k * c' = 4294967296 ^ k * xs[k] + 4294967296 ^ k * (4294967296 * e) := by rw [← Nat.mul_add, ← Nat.mul_add, HDE.out, Nat.mul_add]
            omega
        case measure => simp [intOf]; omega
      · have ey := hid (show ys.getD k 0 = 0 by simp [List.getD, List.getElem?_eq_none (by omega : ys.length ≤ k)])
        obtain ⟨d, hd⟩ : ∃ d : Nat, (d : Int) = ((xs[k] : Int) - 0 - (c' : Int)) % 4294967296 := ⟨(((xs[k] : Int) - 0 - (c' : Int)) % 4294967296).toNat, by omega⟩
        obtain ⟨e, he⟩ : ∃ e : Nat, (e : Int) = borrowZ (xs[k] : Int) 0 (c' : Int) := ⟨(borrowZ (xs[k] : Int) 0 (c' : Int)).toNat, by have := borrowZ_bd (xs[k] : Int) 0 (c' : Int); omega⟩
        have hde : d + c' = xs[k] + 4294967296 * e := by unfold borrowZ at he; split at he <;> omega
        have hd1 : d < 4294967296 := by omega
        have he1 : e ≤ 1 := by have := borrowZ_bd (xs[k] : Int) 0 (c' : Int); omega
        have HA := hid (sub32_any (xs[k] : Int) 0 (c' : Int) wr (by omega) (by omega) (by omega) (by omega) (by omega) (by omega))
        rw [← hd, ← he] at HA
        have HDE := hid hde
        clear hd he hde
        go_wp2_with fail
        refine Calls.mono HA.out ?_
        rintro e' w3 ⟨rfl, rfl⟩
        clear HA
        go_wp2
        go_roundw
        case rel =>
          refine ⟨k + 1, e, ds ++ [d], upd f k (.int .u32 d), by omega, by go_num, rfl, he1, hbw.setCell (Nat.le_refl _) _, by simpa using hsz, hown.set _ _, upd_snoc HL.out HF.out d, ?_, ?_, ?_⟩
          · show (ds ++ [d]).length = k + 1; simp [HL.out]
          · intro x hx; rcases List.mem_append.1 hx with h | h
            · exact HD.out x h
            · simp at h; omega
          · show limbsVal (ds ++ [d]) + limbsVal (ys.take (k + 1)) = _
            rw [limbsVal_snoc, HL.out, E1.out, E2.out, ey.out, Nat.pow_succ, Nat.mul_assoc]
            have h1 := HV.out
            have h2 : 4294967296 ^ k * d + 4294967296 ^ k * c' = 4294967296 ^ k * xs[k] + 4294967296 ^ k * (4294967296 * e) := by rw [← Nat.mul_add, HDE.out, Nat.mul_add]
            omega
        case measure => simp [intOf]; omega
    · have hk' : k = xs.length := by omega
      have hs : limbsVal ds = x - y := by
        have h1 := HV.out
        rw [List.take_of_length_le (by omega), List.take_of_length_le (by omega), vx.out, vy.out] at h1
        have h2 := limbsVal_lt HD.out
        rw [HL.out] at h2
        have : c' = 0 ∨ c' = 1 := by omega
        rcases this with h | h
        · subst h; omega
        · subst h; omega
      have hR := own_limbs hown HF.out (by rw [HL.out, hk']) (by omega) HD.out
      have HT := hid (trim_any _ _ _ _ hR)
      rw [hs] at HT
      clear hs hk' hR
      go_wp2_with fail
      refine Calls.mono HT.out ?_
      rintro e' w3 ⟨r, rfl, rfl, hr⟩
      go_wp2
      go_ret
      exact ⟨_, rfl, hr, hbw⟩

theorem Subtract_ok (a b : ByteArray) (w : World) (ha : a.size ≤ 500000000000) (hb : b.size ≤ 500000000000) (h : strVal b ≤ strVal a) :
    Calls Tryd.prog 73 #[.string a, .string b] w fun e w' => e = .returned (.tuple #[.string (natStr (strVal a - strVal b)), .bool true]) ∧ Below w.heap.size w w' := by
  have H1 := hid (parse_any a w (by omega))
  have la := strVal_limbs_len a
  have hlen : (limbsOf (strVal a - strVal b)).length ≤ 500000000000 := by
    have : strVal a - strVal b < 4294967296 ^ (limbsOf (strVal a)).length := by
      have := limbsVal_lt (limbsOf_lt (strVal a)); rw [limbsVal_limbsOf] at this; omega
    have := limbsOf_len_le this
    omega
  have hcmp : natCmp (strVal a) (strVal b) = 0 ∨ natCmp (strVal a) (strVal b) = 1 := by
    unfold natCmp; rw [if_neg (by omega)]; split <;> simp
  have HV := hid (limbsVal_limbsOf (strVal a - strVal b))
  have HH := hid h
  go_enter Tryd.func73, Tryd.ntmps73
  go_wp2_with fail
  refine Calls.mono H1.out ?_
  rintro e w1 ⟨p, rfl, hp, hb1⟩
  go_wp2_with fail
  refine (parse_any b w1 (by omega)).mono ?_
  rintro e w2 ⟨q, rfl, hq, hb2⟩
  have hp2 := (stays_rSlice stays_rU32).below hp hb2 hb2.size
  clear hp
  have hbel := hb1.step hb2
  go_wp2_with fail
  refine (compare_any _ _ _ _ _ _ (fun _ h => h) hp2 hq).mono ?_
  rintro e w3 ⟨rfl, hb3⟩
  have hp3 := (stays_rSlice stays_rU32).below hp2 hb3 hb3.size
  have hq3 := (stays_rSlice stays_rU32).below hq hb3 hb3.size
  clear hp2 hq
  have hc2 : ¬ natCmp (strVal a) (strVal b) < 0 := by omega
  have HC := hid hcmp
  clear hcmp
  go_wp2_with fail
  refine (subtract_any _ _ _ _ _ _ (fun _ h => h) (by omega) HH.out hp3 hq3).mono ?_
  rintro e w4 ⟨r, rfl, hr, hb4⟩
  go_wp2_with fail
  refine (text_any _ _ _ _ (fun _ h => h) (by omega) hr).mono ?_
  rintro e w5 ⟨rfl, hb5⟩
  rw [HV.out]
  go_wp2
  go_ret2
  exact ⟨rfl, (hbel.step hb3).step (hb4.step hb5)⟩

theorem Subtract_no (a b : ByteArray) (w : World) (ha : a.size ≤ 500000000000) (hb : b.size ≤ 500000000000) (h : strVal a < strVal b) :
    Calls Tryd.prog 73 #[.string a, .string b] w fun e w' => e = .returned (.tuple #[.string ⟨#[]⟩, .bool false]) ∧ Below w.heap.size w w' := by
  have H1 := hid (parse_any a w (by omega))
  have hcmp := natCmp_lt h
  go_enter Tryd.func73, Tryd.ntmps73
  go_wp2_with fail
  refine Calls.mono H1.out ?_
  rintro e w1 ⟨p, rfl, hp, hb1⟩
  go_wp2_with fail
  refine (parse_any b w1 (by omega)).mono ?_
  rintro e w2 ⟨q, rfl, hq, hb2⟩
  have hp2 := (stays_rSlice stays_rU32).below hp hb2 hb2.size
  clear hp
  have hbel := hb1.step hb2
  go_wp2_with fail
  refine (compare_any _ _ _ _ _ _ (fun _ h => h) hp2 hq).mono ?_
  rintro e w3 ⟨rfl, hb3⟩
  rw [hcmp]
  clear hp2 hq hcmp
  go_wp2
  go_ret2
  exact ⟨rfl, hbel.step hb3⟩

end Go.Proofs.YtgmedcncbpdimaaDoor
