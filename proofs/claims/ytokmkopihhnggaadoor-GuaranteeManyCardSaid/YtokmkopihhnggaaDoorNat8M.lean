/- natural: Add, subtract, Subtract: walked. -/
import Derived.Test.YtokmkopihhnggaaDoorNumM
set_option linter.unusedVariables false
set_option linter.unusedSimpArgs false
set_option linter.defProp false
set_option linter.unnecessarySimpa false
section
/- natural: Add, subtract, Subtract: walked. -/
namespace Go.Proofs.YtokmkopihhnggaaDoor
open Go.RowKit
set_option maxRecDepth 100000 in
set_option maxHeartbeats 1000000 in
theorem add_any (a b : ByteArray) (w : World) (ha : a.size ≤ 500000000000) (hb : b.size ≤ 500000000000) :
    Calls Tryd.prog 35 #[.string a, .string b] w fun e w' => e = .returned (.string (natStr (strVal a + strVal b))) ∧ Below w.heap.size w w' := by
  have la : (limbsOf (strVal a)).length ≤ 500000000000 := by
    refine Nat.le_trans (limbs_blen _) (Nat.le_trans ?_ ha)
    exact natBytes_len_le (strVal_lt a)
  have lb : (limbsOf (strVal b)).length ≤ 500000000000 := by
    refine Nat.le_trans (limbs_blen _) (Nat.le_trans ?_ hb)
    exact natBytes_len_le (strVal_lt b)
  have va := hid (limbsVal_limbsOf (strVal a))
  have vb := hid (limbsVal_limbsOf (strVal b))
  have H1 := hid (parse_any a w (by omega))
  go_enter Tryd.func35, Tryd.ntmps35
  go_wp2_with fail
  refine Calls.mono H1.out ?_
  rintro e w1 ⟨p, rfl, hp, hb1⟩
  go_wp2_with fail
  refine (parse_any b w1 (by omega)).mono ?_
  rintro e w2 ⟨q, rfl, hq, hb2⟩
  have hp2 := (stays_rSlice stays_rU32).below hp hb2 hb2.size
  clear hp
  have hbel := hb1.step hb2
  obtain ⟨pa, pc, rfl, p1, p2, p3, p4⟩ := u32s_open hp2
  obtain ⟨qa, qc, rfl, q1, q2, q3, q4⟩ := u32s_open hq
  by_cases hl : (limbsOf (strVal a)).length < (limbsOf (strVal b)).length
  · skip
    obtain ⟨m, hm⟩ : ∃ m : Nat, m = (limbsOf (strVal b)).length + 1 := ⟨_, rfl⟩
    have hm1 : ((limbsOf (strVal b)).length : Int) + 1 = (m : Int) := by omega
    have hmk := fun (w : World) => make_one (P := Tryd.prog) Tryd.underlying82 Tryd.infoU32 rfl w m (by omega) (by omega)
    have HM := hid hm
    clear hm
    go_wp2
    clear hmk
    go_loopw [8, 9, 10, 28] (fun c _ _ i wr => ∃ (k c' : Nat) (ds : List Nat) (f : Nat → Value), k ≤ (limbsOf (strVal b)).length ∧ i = .int .i64 k ∧ c = .int .u32 (c' : Int) ∧ c' ≤ 1 ∧ Below w.heap.size w wr ∧ w2.heap.size < wr.heap.size ∧ Below w2.heap.size w2 wr ∧ Own wr w2.heap.size 87 m f ∧ Hid (∀ j, f j = .int .u32 ((ds.getD j 0 : Nat) : Int)) ∧ Hid (ds.length = k) ∧ Hid (∀ x ∈ ds, x < 4294967296) ∧
      Hid (limbsVal ds + 4294967296 ^ k * c' = limbsVal ((limbsOf (strVal b)).take k) + limbsVal ((limbsOf (strVal a)).take k))) (fun _ _ _ i _ => (limbsOf (strVal b)).length - (intOf i).toNat)
    case atStart => exact ⟨0, 0, [], _, Nat.zero_le _, rfl, rfl, by omega, hbel.alloc hbel.size _, by simp, (Below.refl _ _).alloc (Nat.le_refl _) _, Own.new _ _ _ _, fun j => by simp, rfl, fun x hx => by simp at hx, by simp [Hid, limbsVal]⟩
    case round =>
      obtain ⟨k, c', ds, f, hk, rfl, rfl, hc', hbw, hsz, hbw2, hown, HF, HL, HD, HV⟩ := hrel
      by_cases hlt : k < (limbsOf (strVal b)).length
      · have hkm : k < m := by have := HM.out; omega
        rcases q4 with h0 | ⟨b1, off1, rfl, x4⟩
        · rw [h0] at hlt; simp at hlt
        obtain ⟨g0, g1⟩ := x4.u32 hlt
        rw [← hbw2.cell (p := ⟨b1, off1 + k, none⟩) x4.1] at g0
        have c1 := hown.cell hkm
        rw [HF.out k] at c1
        have c2 := hown.frozen k
        have e1 := take_succ_getD (limbsOf (strVal b)) k
        have e2 := take_succ_getD (limbsOf (strVal a)) k
        have ex : (limbsOf (strVal b)).getD k 0 = (limbsOf (strVal b))[k] := by simp [List.getD, hlt]
        rw [ex] at e1
        have E1 := hid e1
        have E2 := hid e2
        clear e1 e2 ex
        by_cases hy : k < (limbsOf (strVal a)).length
        · rcases p4 with h0 | ⟨b2, off2, rfl, y4⟩
          · rw [h0] at hy; simp at hy
          obtain ⟨f0, f1⟩ := y4.u32 hy
          rw [← hbw2.cell (p := ⟨b2, off2 + k, none⟩) y4.1] at f0
          have ey := hid (show (limbsOf (strVal a)).getD k 0 = (limbsOf (strVal a))[k] by simp [List.getD, hy])
          obtain ⟨d, hd⟩ : ∃ d : Nat, (d : Int) = (((limbsOf (strVal b))[k] : Int) + ((limbsOf (strVal a))[k] : Int) + (c' : Int)) % 4294967296 := ⟨(((limbsOf (strVal b))[k] + (limbsOf (strVal a))[k] + c') % 4294967296), by omega⟩
          obtain ⟨e, he⟩ : ∃ e : Nat, (e : Int) = (((limbsOf (strVal b))[k] : Int) + ((limbsOf (strVal a))[k] : Int) + (c' : Int)) / 4294967296 := ⟨(((limbsOf (strVal b))[k] + (limbsOf (strVal a))[k] + c') / 4294967296), by omega⟩
          have hde : d + 4294967296 * e = (limbsOf (strVal b))[k] + (limbsOf (strVal a))[k] + c' := by omega
          have hd1 : d < 4294967296 := by omega
          have he1 : e ≤ 1 := by omega
          have HA := hid (add32_any ((limbsOf (strVal b))[k] : Int) ((limbsOf (strVal a))[k] : Int) (c' : Int) wr (by omega) (by omega) (by omega) (by omega) (by omega) (by omega))
          rw [← hd, ← he] at HA
          have HDE := hid hde
          clear hd he hde
          go_wp2_with fail
          refine Calls.mono HA.out ?_
          rintro e' w3 ⟨rfl, rfl⟩
          clear HA
          go_wp2
          go_roundw
          case rel =>
            refine ⟨k + 1, e, ds ++ [d], upd f k (.int .u32 d), by omega, by go_num, rfl, he1, hbw.setCell (by simpa using hbel.size) _, by simpa using hsz, hbw2.setCell (Nat.le_refl _) _, hown.set _ _, upd_snoc HL.out HF.out d, ?_, ?_, ?_⟩
            · show (ds ++ [d]).length = k + 1; simp [HL.out]
            · intro x hx; rcases List.mem_append.1 hx with h | h
              · exact HD.out x h
              simp at h; omega
            show limbsVal (ds ++ [d]) + 4294967296 ^ (k + 1) * e = _
            rw [limbsVal_snoc, HL.out, E1.out, E2.out, ey.out, Nat.pow_succ, Nat.mul_assoc]
            have h1 := HV.out
            have h2 : 4294967296 ^ k * d + 4294967296 ^ k * (4294967296 * e) = 4294967296 ^ k * (limbsOf (strVal b))[k] + 4294967296 ^ k * (limbsOf (strVal a))[k] + 4294967296 ^ k * c' := by rw [← Nat.mul_add, HDE.out, Nat.mul_add, Nat.mul_add]
            omega
          case measure => simp [intOf]; omega
        have ey := hid (show (limbsOf (strVal a)).getD k 0 = 0 by simp [List.getD, List.getElem?_eq_none (by omega : (limbsOf (strVal a)).length ≤ k)])
        obtain ⟨d, hd⟩ : ∃ d : Nat, (d : Int) = (((limbsOf (strVal b))[k] : Int) + 0 + (c' : Int)) % 4294967296 := ⟨(((limbsOf (strVal b))[k] + c') % 4294967296), by omega⟩
        obtain ⟨e, he⟩ : ∃ e : Nat, (e : Int) = (((limbsOf (strVal b))[k] : Int) + 0 + (c' : Int)) / 4294967296 := ⟨(((limbsOf (strVal b))[k] + c') / 4294967296), by omega⟩
        have hde : d + 4294967296 * e = (limbsOf (strVal b))[k] + c' := by omega
        have hd1 : d < 4294967296 := by omega
        have he1 : e ≤ 1 := by omega
        have HA := hid (add32_any ((limbsOf (strVal b))[k] : Int) 0 (c' : Int) wr (by omega) (by omega) (by omega) (by omega) (by omega) (by omega))
        rw [← hd, ← he] at HA
        have HDE := hid hde
        clear hd he hde
        go_wp2_with fail
        refine Calls.mono HA.out ?_
        rintro e' w3 ⟨rfl, rfl⟩
        clear HA
        go_wp2
        go_roundw
        case rel =>
          refine ⟨k + 1, e, ds ++ [d], upd f k (.int .u32 d), by omega, by go_num, rfl, he1, hbw.setCell (by simpa using hbel.size) _, by simpa using hsz, hbw2.setCell (Nat.le_refl _) _, hown.set _ _, upd_snoc HL.out HF.out d, ?_, ?_, ?_⟩
          · show (ds ++ [d]).length = k + 1; simp [HL.out]
          · intro x hx; rcases List.mem_append.1 hx with h | h
            · exact HD.out x h
            simp at h; omega
          show limbsVal (ds ++ [d]) + 4294967296 ^ (k + 1) * e = _
          rw [limbsVal_snoc, HL.out, E1.out, E2.out, ey.out, Nat.pow_succ, Nat.mul_assoc]
          have h1 := HV.out
          have h2 : 4294967296 ^ k * d + 4294967296 ^ k * (4294967296 * e) = 4294967296 ^ k * (limbsOf (strVal b))[k] + 4294967296 ^ k * c' := by rw [← Nat.mul_add, HDE.out, Nat.mul_add]
          omega
        case measure => simp [intOf]; omega
      have hk' : k = (limbsOf (strVal b)).length := by omega
      have hkm : (limbsOf (strVal b)).length < m := by have := HM.out; omega
      have hs : limbsVal (ds ++ [c']) = strVal a + strVal b := by
        have h1 := HV.out
        rw [List.take_of_length_le (by omega), List.take_of_length_le (by omega), va.out, vb.out] at h1
        rw [limbsVal_snoc, HL.out]; omega
      have HR := hid (fun ww (h : Own ww w2.heap.size 87 m (upd f (limbsOf (strVal b)).length (.int .u32 c'))) => text_any _ _ (ds ++ [c']) _ (fun _ h => h) (by simp [HL.out]; have := HM.out; omega) (own_limbs h (by rw [← hk']; exact upd_snoc HL.out HF.out c') (by simp [HL.out]; have := HM.out; omega) (by omega) (by intro x hx; rcases List.mem_append.1 hx with h | h; exact HD.out x h; simp at h; omega)))
      rw [hs] at HR
      have c1 := hown.cell hkm
      rw [HF.out] at c1
      have c2 := hown.frozen (limbsOf (strVal b)).length
      clear hs hk'
      go_wp2_with fail
      refine Calls.mono (HR.out _ (hown.set _ _)) ?_
      rintro e' w3 ⟨rfl, hb3⟩
      go_wp2
      go_ret
      exact ⟨rfl, (hbw.setCell (p := ⟨w2.heap.size, _, none⟩) hbel.size _).step hb3⟩
  skip
  obtain ⟨m, hm⟩ : ∃ m : Nat, m = (limbsOf (strVal a)).length + 1 := ⟨_, rfl⟩
  have hm1 : ((limbsOf (strVal a)).length : Int) + 1 = (m : Int) := by omega
  have hmk := fun (w : World) => make_one (P := Tryd.prog) Tryd.underlying82 Tryd.infoU32 rfl w m (by omega) (by omega)
  have HM := hid hm
  clear hm
  go_wp2
  clear hmk
  go_loopw [8, 9, 10, 28] (fun c _ _ i wr => ∃ (k c' : Nat) (ds : List Nat) (f : Nat → Value), k ≤ (limbsOf (strVal a)).length ∧ i = .int .i64 k ∧ c = .int .u32 (c' : Int) ∧ c' ≤ 1 ∧ Below w.heap.size w wr ∧ w2.heap.size < wr.heap.size ∧ Below w2.heap.size w2 wr ∧ Own wr w2.heap.size 87 m f ∧ Hid (∀ j, f j = .int .u32 ((ds.getD j 0 : Nat) : Int)) ∧ Hid (ds.length = k) ∧ Hid (∀ x ∈ ds, x < 4294967296) ∧
    Hid (limbsVal ds + 4294967296 ^ k * c' = limbsVal ((limbsOf (strVal a)).take k) + limbsVal ((limbsOf (strVal b)).take k))) (fun _ _ _ i _ => (limbsOf (strVal a)).length - (intOf i).toNat)
  case atStart => exact ⟨0, 0, [], _, Nat.zero_le _, rfl, rfl, by omega, hbel.alloc hbel.size _, by simp, (Below.refl _ _).alloc (Nat.le_refl _) _, Own.new _ _ _ _, fun j => by simp, rfl, fun x hx => by simp at hx, by simp [Hid, limbsVal]⟩
  case round =>
    obtain ⟨k, c', ds, f, hk, rfl, rfl, hc', hbw, hsz, hbw2, hown, HF, HL, HD, HV⟩ := hrel
    by_cases hlt : k < (limbsOf (strVal a)).length
    · have hkm : k < m := by have := HM.out; omega
      rcases p4 with h0 | ⟨b1, off1, rfl, x4⟩
      · rw [h0] at hlt; simp at hlt
      obtain ⟨g0, g1⟩ := x4.u32 hlt
      rw [← hbw2.cell (p := ⟨b1, off1 + k, none⟩) x4.1] at g0
      have c1 := hown.cell hkm
      rw [HF.out k] at c1
      have c2 := hown.frozen k
      have e1 := take_succ_getD (limbsOf (strVal a)) k
      have e2 := take_succ_getD (limbsOf (strVal b)) k
      have ex : (limbsOf (strVal a)).getD k 0 = (limbsOf (strVal a))[k] := by simp [List.getD, hlt]
      rw [ex] at e1
      have E1 := hid e1
      have E2 := hid e2
      clear e1 e2 ex
      by_cases hy : k < (limbsOf (strVal b)).length
      · rcases q4 with h0 | ⟨b2, off2, rfl, y4⟩
        · rw [h0] at hy; simp at hy
        obtain ⟨f0, f1⟩ := y4.u32 hy
        rw [← hbw2.cell (p := ⟨b2, off2 + k, none⟩) y4.1] at f0
        have ey := hid (show (limbsOf (strVal b)).getD k 0 = (limbsOf (strVal b))[k] by simp [List.getD, hy])
        obtain ⟨d, hd⟩ : ∃ d : Nat, (d : Int) = (((limbsOf (strVal a))[k] : Int) + ((limbsOf (strVal b))[k] : Int) + (c' : Int)) % 4294967296 := ⟨(((limbsOf (strVal a))[k] + (limbsOf (strVal b))[k] + c') % 4294967296), by omega⟩
        obtain ⟨e, he⟩ : ∃ e : Nat, (e : Int) = (((limbsOf (strVal a))[k] : Int) + ((limbsOf (strVal b))[k] : Int) + (c' : Int)) / 4294967296 := ⟨(((limbsOf (strVal a))[k] + (limbsOf (strVal b))[k] + c') / 4294967296), by omega⟩
        have hde : d + 4294967296 * e = (limbsOf (strVal a))[k] + (limbsOf (strVal b))[k] + c' := by omega
        have hd1 : d < 4294967296 := by omega
        have he1 : e ≤ 1 := by omega
        have HA := hid (add32_any ((limbsOf (strVal a))[k] : Int) ((limbsOf (strVal b))[k] : Int) (c' : Int) wr (by omega) (by omega) (by omega) (by omega) (by omega) (by omega))
        rw [← hd, ← he] at HA
        have HDE := hid hde
        clear hd he hde
        go_wp2_with fail
        refine Calls.mono HA.out ?_
        rintro e' w3 ⟨rfl, rfl⟩
        clear HA
        go_wp2
        go_roundw
        case rel =>
          refine ⟨k + 1, e, ds ++ [d], upd f k (.int .u32 d), by omega, by go_num, rfl, he1, hbw.setCell (by simpa using hbel.size) _, by simpa using hsz, hbw2.setCell (Nat.le_refl _) _, hown.set _ _, upd_snoc HL.out HF.out d, ?_, ?_, ?_⟩
          · show (ds ++ [d]).length = k + 1; simp [HL.out]
          · intro x hx; rcases List.mem_append.1 hx with h | h
            · exact HD.out x h
            simp at h; omega
          show limbsVal (ds ++ [d]) + 4294967296 ^ (k + 1) * e = _
          rw [limbsVal_snoc, HL.out, E1.out, E2.out, ey.out, Nat.pow_succ, Nat.mul_assoc]
          have h1 := HV.out
          have h2 : 4294967296 ^ k * d + 4294967296 ^ k * (4294967296 * e) = 4294967296 ^ k * (limbsOf (strVal a))[k] + 4294967296 ^ k * (limbsOf (strVal b))[k] + 4294967296 ^ k * c' := by rw [← Nat.mul_add, HDE.out, Nat.mul_add, Nat.mul_add]
          omega
        case measure => simp [intOf]; omega
      have ey := hid (show (limbsOf (strVal b)).getD k 0 = 0 by simp [List.getD, List.getElem?_eq_none (by omega : (limbsOf (strVal b)).length ≤ k)])
      obtain ⟨d, hd⟩ : ∃ d : Nat, (d : Int) = (((limbsOf (strVal a))[k] : Int) + 0 + (c' : Int)) % 4294967296 := ⟨(((limbsOf (strVal a))[k] + c') % 4294967296), by omega⟩
      obtain ⟨e, he⟩ : ∃ e : Nat, (e : Int) = (((limbsOf (strVal a))[k] : Int) + 0 + (c' : Int)) / 4294967296 := ⟨(((limbsOf (strVal a))[k] + c') / 4294967296), by omega⟩
      have hde : d + 4294967296 * e = (limbsOf (strVal a))[k] + c' := by omega
      have hd1 : d < 4294967296 := by omega
      have he1 : e ≤ 1 := by omega
      have HA := hid (add32_any ((limbsOf (strVal a))[k] : Int) 0 (c' : Int) wr (by omega) (by omega) (by omega) (by omega) (by omega) (by omega))
      rw [← hd, ← he] at HA
      have HDE := hid hde
      clear hd he hde
      go_wp2_with fail
      refine Calls.mono HA.out ?_
      rintro e' w3 ⟨rfl, rfl⟩
      clear HA
      go_wp2
      go_roundw
      case rel =>
        refine ⟨k + 1, e, ds ++ [d], upd f k (.int .u32 d), by omega, by go_num, rfl, he1, hbw.setCell (by simpa using hbel.size) _, by simpa using hsz, hbw2.setCell (Nat.le_refl _) _, hown.set _ _, upd_snoc HL.out HF.out d, ?_, ?_, ?_⟩
        · show (ds ++ [d]).length = k + 1; simp [HL.out]
        · intro x hx; rcases List.mem_append.1 hx with h | h
          · exact HD.out x h
          simp at h; omega
        show limbsVal (ds ++ [d]) + 4294967296 ^ (k + 1) * e = _
        rw [limbsVal_snoc, HL.out, E1.out, E2.out, ey.out, Nat.pow_succ, Nat.mul_assoc]
        have h1 := HV.out
        have h2 : 4294967296 ^ k * d + 4294967296 ^ k * (4294967296 * e) = 4294967296 ^ k * (limbsOf (strVal a))[k] + 4294967296 ^ k * c' := by rw [← Nat.mul_add, HDE.out, Nat.mul_add]
        omega
      case measure => simp [intOf]; omega
    have hk' : k = (limbsOf (strVal a)).length := by omega
    have hkm : (limbsOf (strVal a)).length < m := by have := HM.out; omega
    have hs : limbsVal (ds ++ [c']) = strVal a + strVal b := by
      have h1 := HV.out
      rw [List.take_of_length_le (by omega), List.take_of_length_le (by omega), va.out, vb.out] at h1
      rw [limbsVal_snoc, HL.out]; omega
    have HR := hid (fun ww (h : Own ww w2.heap.size 87 m (upd f (limbsOf (strVal a)).length (.int .u32 c'))) => text_any _ _ (ds ++ [c']) _ (fun _ h => h) (by simp [HL.out]; have := HM.out; omega) (own_limbs h (by rw [← hk']; exact upd_snoc HL.out HF.out c') (by simp [HL.out]; have := HM.out; omega) (by omega) (by intro x hx; rcases List.mem_append.1 hx with h | h; exact HD.out x h; simp at h; omega)))
    rw [hs] at HR
    have c1 := hown.cell hkm
    rw [HF.out] at c1
    have c2 := hown.frozen (limbsOf (strVal a)).length
    clear hs hk'
    go_wp2_with fail
    refine Calls.mono (HR.out _ (hown.set _ _)) ?_
    rintro e' w3 ⟨rfl, hb3⟩
    go_wp2
    go_ret
    exact ⟨rfl, (hbw.setCell (p := ⟨w2.heap.size, _, none⟩) hbel.size _).step hb3⟩
end Go.Proofs.YtokmkopihhnggaaDoor
end
section
/- natural: subtract, Subtract: walked. -/
namespace Go.Proofs.YtokmkopihhnggaaDoor
open Go.RowKit
theorem strVal_limbs_len (a : ByteArray) : (limbsOf (strVal a)).length ≤ a.size := Nat.le_trans (limbs_blen _) (natBytes_len_le (strVal_lt a))
set_option maxRecDepth 100000 in
set_option maxHeartbeats 1000000 in
theorem subtract_any (S : Nat → Prop) (u v : Value) (x y : Nat) (w : World) (hS : ∀ b, S b → b < w.heap.size) (hl : (limbsOf x).length ≤ 1000000000000) (hyx : y ≤ x) (hu : rSlice 1 rU32 w S [u] (limbsOf x)) (hv : rSlice 1 rU32 w S [v] (limbsOf y)) :
    Calls Tryd.prog 49 #[u, v] w fun e w' => ∃ r, e = .returned r ∧ rSlice 1 rU32 w' (LT w'.heap.size) [r] (limbsOf (x - y)) ∧ Below w.heap.size w w' := by
  have hxlt := hid (limbsOf_lt x)
  have hylt := hid (limbsOf_lt y)
  have vx := hid (limbsVal_limbsOf x)
  have vy := hid (limbsVal_limbsOf y)
  have hylen : (limbsOf y).length ≤ (limbsOf x).length := by
    rcases Nat.lt_or_ge (limbsOf x).length (limbsOf y).length with h | h
    · have := limbs_len_lt h; omega
    exact h
  obtain ⟨xa, xc, rfl, x1, x2, x3, x4⟩ := u32s_open hu
  obtain ⟨ya, yc, rfl, y1, y2, y3, y4⟩ := u32s_open hv
  generalize limbsOf x = xs at *
  generalize limbsOf y = ys at *
  have hn := len_le x1 x2
  have hmk := fun (w : World) => make_one (P := Tryd.prog) Tryd.underlying82 Tryd.infoU32 rfl w xs.length (by omega) (by omega)
  go_enter Tryd.func49, Tryd.ntmps49
  go_wp2
  clear hmk
  go_loopw [6, 7, 8, 14] (fun c _ _ i wr => ∃ (k c' : Nat) (ds : List Nat) (f : Nat → Value), k ≤ xs.length ∧ i = .int .i64 k ∧ c = .int .u32 (c' : Int) ∧ c' ≤ 1 ∧ Below w.heap.size w wr ∧ w.heap.size < wr.heap.size ∧ Own wr w.heap.size 87 xs.length f ∧ Hid (∀ j, f j = .int .u32 ((ds.getD j 0 : Nat) : Int)) ∧ Hid (ds.length = k) ∧ Hid (∀ x ∈ ds, x < 4294967296) ∧
      Hid (limbsVal ds + limbsVal (ys.take k) = limbsVal (xs.take k) + 4294967296 ^ k * c')) (fun _ _ _ i _ => xs.length - (intOf i).toNat)
  case atStart => exact ⟨0, 0, [], _, Nat.zero_le _, rfl, rfl, by omega, (Below.refl _ _).alloc (Nat.le_refl _) _, by simp, Own.new _ _ _ _, fun j => by simp, rfl, fun x hx => by simp at hx, by simp [Hid, limbsVal]⟩
  case round =>
    obtain ⟨k, c', ds, f, hk, rfl, rfl, hc', hbw, hsz, hown, HF, HL, HD, HV⟩ := hrel
    by_cases hlt : k < xs.length
    · rcases x4 with rfl | ⟨b1, off1, rfl, x4⟩
      · simp at hlt
      obtain ⟨g0, g1⟩ := x4.u32 hlt
      rw [← hbw.cell (p := ⟨b1, off1 + k, none⟩) (hS _ x4.1)] at g0
      have c1 := hown.cell hlt
      rw [HF.out k] at c1
      have c2 := hown.frozen k
      have e1 := take_succ_getD xs k
      have e2 := take_succ_getD ys k
      have ex : xs.getD k 0 = xs[k] := by simp [List.getD, hlt]
      rw [ex] at e1
      have E1 := hid e1
      have E2 := hid e2
      clear e1 e2 ex
      by_cases hy : k < ys.length
      · rcases y4 with rfl | ⟨b2, off2, rfl, y4⟩
        · simp at hy
        obtain ⟨f0, f1⟩ := y4.u32 hy
        rw [← hbw.cell (p := ⟨b2, off2 + k, none⟩) (hS _ y4.1)] at f0
        have ey := hid (show ys.getD k 0 = ys[k] by simp [List.getD, hy])
        obtain ⟨d, hd⟩ : ∃ d : Nat, (d : Int) = ((xs[k] : Int) - (ys[k] : Int) - (c' : Int)) % 4294967296 := ⟨(((xs[k] : Int) - (ys[k] : Int) - (c' : Int)) % 4294967296).toNat, by omega⟩
        obtain ⟨e, he⟩ : ∃ e : Nat, (e : Int) = borrowZ (xs[k] : Int) (ys[k] : Int) (c' : Int) := ⟨(borrowZ (xs[k] : Int) (ys[k] : Int) (c' : Int)).toNat, by have := borrowZ_bd (xs[k] : Int) (ys[k] : Int) (c' : Int); omega⟩
        have hde : d + ys[k] + c' = xs[k] + 4294967296 * e := by unfold borrowZ at he; split at he <;> omega
        have hd1 : d < 4294967296 := by omega
        have he1 : e ≤ 1 := by have := borrowZ_bd (xs[k] : Int) (ys[k] : Int) (c' : Int); omega
        have HA := hid (sub32_any (xs[k] : Int) (ys[k] : Int) (c' : Int) wr (by omega) (by omega) (by omega) (by omega) (by omega) (by omega))
        rw [← hd, ← he] at HA
        have HDE := hid hde
        clear hd he hde
        go_wp2_with fail
        refine Calls.mono HA.out ?_
        rintro e' w3 ⟨rfl, rfl⟩
        clear HA
        go_wp2
        go_roundw
        case rel =>
          refine ⟨k + 1, e, ds ++ [d], upd f k (.int .u32 d), by omega, by go_num, rfl, he1, hbw.setCell (Nat.le_refl _) _, by simpa using hsz, hown.set _ _, upd_snoc HL.out HF.out d, ?_, ?_, ?_⟩
          · show (ds ++ [d]).length = k + 1; simp [HL.out]
          · intro x hx; rcases List.mem_append.1 hx with h | h
            · exact HD.out x h
            simp at h; omega
          show limbsVal (ds ++ [d]) + limbsVal (ys.take (k + 1)) = _
          rw [limbsVal_snoc, HL.out, E1.out, E2.out, ey.out, Nat.pow_succ, Nat.mul_assoc]
          have h1 := HV.out
          have h2 : 4294967296 ^ k * d + 4294967296 ^ k * ys[k] + 4294967296 ^ k * c' = 4294967296 ^ k * xs[k] + 4294967296 ^ k * (4294967296 * e) := by rw [← Nat.mul_add, ← Nat.mul_add, HDE.out, Nat.mul_add]
          omega
        case measure => simp [intOf]; omega
      have ey := hid (show ys.getD k 0 = 0 by simp [List.getD, List.getElem?_eq_none (by omega : ys.length ≤ k)])
      obtain ⟨d, hd⟩ : ∃ d : Nat, (d : Int) = ((xs[k] : Int) - 0 - (c' : Int)) % 4294967296 := ⟨(((xs[k] : Int) - 0 - (c' : Int)) % 4294967296).toNat, by omega⟩
      obtain ⟨e, he⟩ : ∃ e : Nat, (e : Int) = borrowZ (xs[k] : Int) 0 (c' : Int) := ⟨(borrowZ (xs[k] : Int) 0 (c' : Int)).toNat, by have := borrowZ_bd (xs[k] : Int) 0 (c' : Int); omega⟩
      have hde : d + c' = xs[k] + 4294967296 * e := by unfold borrowZ at he; split at he <;> omega
      have hd1 : d < 4294967296 := by omega
      have he1 : e ≤ 1 := by have := borrowZ_bd (xs[k] : Int) 0 (c' : Int); omega
      have HA := hid (sub32_any (xs[k] : Int) 0 (c' : Int) wr (by omega) (by omega) (by omega) (by omega) (by omega) (by omega))
      rw [← hd, ← he] at HA
      have HDE := hid hde
      clear hd he hde
      go_wp2_with fail
      refine Calls.mono HA.out ?_
      rintro e' w3 ⟨rfl, rfl⟩
      clear HA
      go_wp2
      go_roundw
      case rel =>
        refine ⟨k + 1, e, ds ++ [d], upd f k (.int .u32 d), by omega, by go_num, rfl, he1, hbw.setCell (Nat.le_refl _) _, by simpa using hsz, hown.set _ _, upd_snoc HL.out HF.out d, ?_, ?_, ?_⟩
        · show (ds ++ [d]).length = k + 1; simp [HL.out]
        · intro x hx; rcases List.mem_append.1 hx with h | h
          · exact HD.out x h
          simp at h; omega
        show limbsVal (ds ++ [d]) + limbsVal (ys.take (k + 1)) = _
        rw [limbsVal_snoc, HL.out, E1.out, E2.out, ey.out, Nat.pow_succ, Nat.mul_assoc]
        have h1 := HV.out
        have h2 : 4294967296 ^ k * d + 4294967296 ^ k * c' = 4294967296 ^ k * xs[k] + 4294967296 ^ k * (4294967296 * e) := by rw [← Nat.mul_add, HDE.out, Nat.mul_add]
        omega
      case measure => simp [intOf]; omega
    have hk' : k = xs.length := by omega
    have hs : limbsVal ds = x - y := by
      have h1 := HV.out
      rw [List.take_of_length_le (by omega), List.take_of_length_le (by omega), vx.out, vy.out] at h1
      have h2 := limbsVal_lt HD.out
      rw [HL.out] at h2
      have : c' = 0 ∨ c' = 1 := by omega
      rcases this with h | h
      · subst h; omega
      subst h; omega
    have hR := own_limbs hown HF.out (by rw [HL.out, hk']) (by omega) HD.out
    have HT := hid (trim_any _ _ _ _ hR)
    rw [hs] at HT
    clear hs hk' hR
    go_wp2_with fail
    refine Calls.mono HT.out ?_
    rintro e' w3 ⟨r, rfl, rfl, hr⟩
    go_wp2
    go_ret
    exact ⟨_, rfl, hr, hbw⟩
theorem Subtract_ok (a b : ByteArray) (w : World) (ha : a.size ≤ 500000000000) (hb : b.size ≤ 500000000000) (h : strVal b ≤ strVal a) :
    Calls Tryd.prog 36 #[.string a, .string b] w fun e w' => e = .returned (.tuple #[.string (natStr (strVal a - strVal b)), .bool true]) ∧ Below w.heap.size w w' := by
  have H1 := hid (parse_any a w (by omega))
  have la := strVal_limbs_len a
  have hlen : (limbsOf (strVal a - strVal b)).length ≤ 500000000000 := by
    have : strVal a - strVal b < 4294967296 ^ (limbsOf (strVal a)).length := by
      have := limbsVal_lt (limbsOf_lt (strVal a)); rw [limbsVal_limbsOf] at this; omega
    have := limbsOf_len_le this
    omega
  have hcmp : natCmp (strVal a) (strVal b) = 0 ∨ natCmp (strVal a) (strVal b) = 1 := by
    unfold natCmp; rw [if_neg (by omega)]; split <;> simp
  have HV := hid (limbsVal_limbsOf (strVal a - strVal b))
  have HH := hid h
  go_enter Tryd.func36, Tryd.ntmps36
  go_wp2_with fail
  refine Calls.mono H1.out ?_
  rintro e w1 ⟨p, rfl, hp, hb1⟩
  go_wp2_with fail
  refine (parse_any b w1 (by omega)).mono ?_
  rintro e w2 ⟨q, rfl, hq, hb2⟩
  have hp2 := (stays_rSlice stays_rU32).below hp hb2 hb2.size
  clear hp
  have hbel := hb1.step hb2
  go_wp2_with fail
  refine (compare_any _ _ _ _ _ _ (fun _ h => h) hp2 hq).mono ?_
  rintro e w3 ⟨rfl, hb3⟩
  have hp3 := (stays_rSlice stays_rU32).below hp2 hb3 hb3.size
  have hq3 := (stays_rSlice stays_rU32).below hq hb3 hb3.size
  clear hp2 hq
  have hc2 : ¬ natCmp (strVal a) (strVal b) < 0 := by omega
  have HC := hid hcmp
  clear hcmp
  go_wp2_with fail
  refine (subtract_any _ _ _ _ _ _ (fun _ h => h) (by omega) HH.out hp3 hq3).mono ?_
  rintro e w4 ⟨r, rfl, hr, hb4⟩
  go_wp2_with fail
  refine (text_any _ _ _ _ (fun _ h => h) (by omega) hr).mono ?_
  rintro e w5 ⟨rfl, hb5⟩
  rw [HV.out]
  go_wp2
  go_ret2
  exact ⟨rfl, (hbel.step hb3).step (hb4.step hb5)⟩
theorem Subtract_no (a b : ByteArray) (w : World) (ha : a.size ≤ 500000000000) (hb : b.size ≤ 500000000000) (h : strVal a < strVal b) :
    Calls Tryd.prog 36 #[.string a, .string b] w fun e w' => e = .returned (.tuple #[.string ⟨#[]⟩, .bool false]) ∧ Below w.heap.size w w' := by
  have H1 := hid (parse_any a w (by omega))
  have hcmp := natCmp_lt h
  go_enter Tryd.func36, Tryd.ntmps36
  go_wp2_with fail
  refine Calls.mono H1.out ?_
  rintro e w1 ⟨p, rfl, hp, hb1⟩
  go_wp2_with fail
  refine (parse_any b w1 (by omega)).mono ?_
  rintro e w2 ⟨q, rfl, hq, hb2⟩
  have hp2 := (stays_rSlice stays_rU32).below hp hb2 hb2.size
  clear hp
  have hbel := hb1.step hb2
  go_wp2_with fail
  refine (compare_any _ _ _ _ _ _ (fun _ h => h) hp2 hq).mono ?_
  rintro e w3 ⟨rfl, hb3⟩
  rw [hcmp]
  clear hp2 hq hcmp
  go_wp2
  go_ret2
  exact ⟨rfl, hbel.step hb3⟩
end Go.Proofs.YtokmkopihhnggaaDoor
end
section
/- natural: Multiply: walked. -/
namespace Go.Proofs.YtokmkopihhnggaaDoor
open Go.RowKit
theorem limbsVal_set : ∀ (o : List Nat) (p d : Nat) (h : p < o.length), limbsVal (o.set p d) + 4294967296 ^ p * o[p] = limbsVal o + 4294967296 ^ p * d
  | x :: r, 0, d, _ => by simp [limbsVal]; omega
  | x :: r, p + 1, d, h => by
    have ih := limbsVal_set r p d (by simpa using h)
    simp only [List.set_cons_succ, limbsVal, List.getElem_cons_succ, Nat.pow_succ]
    rw [Nat.mul_comm (4294967296 ^ p) 4294967296, Nat.mul_assoc, Nat.mul_assoc]
    omega
theorem upd_set {f : Nat → Value} {o : List Nat} {p : Nat} (hp : p < o.length) (h : ∀ j, f j = .int .u32 ((o.getD j 0 : Nat) : Int)) (d : Nat) : ∀ j, upd f p (.int .u32 (d : Int)) j = .int .u32 (((o.set p d).getD j 0 : Nat) : Int) := by
  intro j
  unfold upd
  by_cases hj : j = p
  · rw [if_pos hj, hj]; simp [List.getD, hp]
  rw [if_neg hj, h j]
  simp [List.getD, List.getElem?_set, show ¬ p = j by omega]
theorem mul_bd {u v : Nat} (hu : u < 4294967296) (hv : v < 4294967296) : u * v ≤ 18446744065119617025 := by
  have := Nat.mul_le_mul (Nat.le_of_lt_succ hu : u ≤ 4294967295) (Nat.le_of_lt_succ hv : v ≤ 4294967295)
  exact this
set_option maxRecDepth 100000 in
set_option maxHeartbeats 1000000 in
theorem Multiply_any (a b : ByteArray) (w : World) (ha : a.size ≤ 500000000000) (hb : b.size ≤ 500000000000) :
    Calls Tryd.prog 33 #[.string a, .string b] w fun e w' => e = .returned (.string (natStr (strVal a * strVal b))) ∧ Below w.heap.size w w' := by
  have la := strVal_limbs_len a
  have lb := strVal_limbs_len b
  have va := hid (limbsVal_limbsOf (strVal a))
  have vb := hid (limbsVal_limbsOf (strVal b))
  have H1 := hid (parse_any a w (by omega))
  go_enter Tryd.func33, Tryd.ntmps33
  go_wp2_with fail
  refine Calls.mono H1.out ?_
  rintro e w1 ⟨p, rfl, hp, hb1⟩
  go_wp2_with fail
  refine (parse_any b w1 (by omega)).mono ?_
  rintro e w2 ⟨q, rfl, hq, hb2⟩
  have hp2 := (stays_rSlice stays_rU32).below hp hb2 hb2.size
  clear hp
  have hbel := hb1.step hb2
  obtain ⟨pa, pc, rfl, p1, p2, p3, p4⟩ := u32s_open hp2
  obtain ⟨qa, qc, rfl, q1, q2, q3, q4⟩ := u32s_open hq
  generalize limbsOf (strVal a) = xs at *
  generalize limbsOf (strVal b) = ys at *
  obtain ⟨n, hn⟩ : ∃ n : Nat, n = xs.length + ys.length := ⟨_, rfl⟩
  have hn1 : (xs.length : Int) + (ys.length : Int) = (n : Int) := by omega
  have hmk := fun (w : World) => make_one (P := Tryd.prog) Tryd.underlying82 Tryd.infoU32 rfl w n (by omega) (by omega)
  have HN := hid hn
  clear hn
  have hxn : xs.length ≤ 9223372036854775807 := by omega
  have hyn : ys.length ≤ 9223372036854775807 := by omega
  go_wp2
  clear hmk hn1
  go_loopw [8, 9, 10, 11, 12, 13, 26] (fun _ _ _ _ _ _ i wr => ∃ (k : Nat) (o : List Nat) (f : Nat → Value), k ≤ xs.length ∧ i = .int .i64 k ∧ Below w.heap.size w wr ∧ w2.heap.size < wr.heap.size ∧ Below w2.heap.size w2 wr ∧ Own wr w2.heap.size 87 n f ∧ Hid (∀ j, f j = .int .u32 ((o.getD j 0 : Nat) : Int)) ∧ Hid (o.length = n) ∧ Hid (∀ x ∈ o, x < 4294967296) ∧
      Hid (limbsVal o = limbsVal (xs.take k) * limbsVal ys) ∧ Hid (∀ j, k + ys.length ≤ j → o.getD j 0 = 0)) (fun _ _ _ _ _ _ i _ => xs.length - (intOf i).toNat)
  case atStart =>
    refine ⟨0, List.replicate n 0, _, Nat.zero_le _, rfl, hbel.alloc hbel.size _, by simp, (Below.refl _ _).alloc (Nat.le_refl _) _, Own.new _ _ _ _, fun j => ?_, by simp [Hid], fun x hx => ?_, ?_, fun j _ => ?_⟩
    · simp [List.getD, List.getElem?_replicate]; split <;> rfl
    · have := List.eq_of_mem_replicate hx; omega
    · show limbsVal _ = limbsVal (xs.take 0) * limbsVal ys; rw [limbsVal_zeros]; simp [limbsVal]
    simp [List.getD, List.getElem?_replicate]; split <;> rfl
  case round =>
    obtain ⟨k, o, f, hk, rfl, hbw, hsz, hbw2, hown, HF, HL, HD, HV, HZ⟩ := hrel
    by_cases hlt : k < xs.length
    · rcases p4 with rfl | ⟨b1, off1, rfl, p4⟩
      · simp at hlt
      obtain ⟨g0, g1⟩ := p4.u32 hlt
      rw [← hbw2.cell (p := ⟨b1, off1 + k, none⟩) p4.1] at g0
      have hkn : k + ys.length < n := by have := HN.out; omega
      have HT := hid (limbsVal_take_succ xs k hlt)
      obtain ⟨x, hx⟩ : ∃ x, x = xs[k] := ⟨_, rfl⟩
      rw [← hx] at g0 g1 HT
      clear hx
      have hkn' : (k : Int) < (n : Int) := by omega
      obtain ⟨wo, hwo⟩ : ∃ wo : World, wo = wr := ⟨_, rfl⟩
      subst hwo
      go_wp2
      go_loopw [10, 11, 12, 13, 33] (fun c _ _ _ i wr => ∃ (m c' : Nat) (o' : List Nat) (f : Nat → Value), m ≤ ys.length ∧ i = .int .i64 m ∧ c = .int .u64 (c' : Int) ∧ c' < 4294967296 ∧ Below w.heap.size w wr ∧ w2.heap.size < wr.heap.size ∧ Below w2.heap.size w2 wr ∧ Own wr w2.heap.size 87 n f ∧ Hid (∀ j, f j = .int .u32 ((o'.getD j 0 : Nat) : Int)) ∧ Hid (o'.length = n) ∧ Hid (∀ x ∈ o', x < 4294967296) ∧
        Hid (limbsVal o' + 4294967296 ^ (k + m) * c' = limbsVal (xs.take k) * limbsVal ys + 4294967296 ^ k * (x * limbsVal (ys.take m))) ∧ Hid (∀ j, k + ys.length ≤ j → o'.getD j 0 = 0)) (fun _ _ _ _ i _ => ys.length - (intOf i).toNat)
      case atStart => exact ⟨0, 0, o, f, Nat.zero_le _, rfl, rfl, by omega, hbw, hsz, hbw2, hown, HF, HL, HD, by simp [Hid, limbsVal, HV.out], HZ⟩
      case round =>
        clear hown HF HL HD HV HZ hbw hbw2 hsz g0
        obtain ⟨m, c', o', f, hm, rfl, rfl, hc', hbw, hsz, hbw2, hown, HF, HL, HD, HV, HZ⟩ := hrel
        by_cases hmlt : m < ys.length
        · rcases q4 with rfl | ⟨b2, off2, rfl, q4⟩
          · simp at hmlt
          obtain ⟨f0, f1⟩ := q4.u32 hmlt
          rw [← hbw2.cell (p := ⟨b2, off2 + m, none⟩) q4.1] at f0
          have hp : k + m < n := by omega
          have HT2 := hid (limbsVal_take_succ ys m hmlt)
          obtain ⟨y, hy⟩ : ∃ y, y = ys[m] := ⟨_, rfl⟩
          rw [← hy] at f0 f1 HT2
          clear hy
          have c1 := hown.cell hp
          rw [HF.out] at c1
          have hpo : k + m < o'.length := by rw [HL.out]; exact hp
          have eo : o'.getD (k + m) 0 = o'[k + m] := by simp [List.getD, hpo]
          have ho : o'[k + m] < 4294967296 := HD.out _ (List.getElem_mem hpo)
          have HS := hid (fun d => limbsVal_set o' (k + m) d hpo)
          rw [eo] at c1
          obtain ⟨z, hz⟩ : ∃ z, z = o'[k + m] := ⟨_, rfl⟩
          rw [← hz] at c1 ho HS
          have c2 := hown.frozen (k + m)
          clear hz eo
          obtain ⟨d, hd⟩ : ∃ d : Nat, d = (x * y + z + c') % 4294967296 := ⟨_, rfl⟩
          obtain ⟨e, he⟩ : ∃ e : Nat, e = (x * y + z + c') / 4294967296 := ⟨_, rfl⟩
          have hmb := mul_bd g1 f1
          have hde : d + 4294967296 * e = x * y + z + c' := by omega
          have hd1 : d < 4294967296 := by omega
          have he1 : e < 4294967296 := by omega
          have e1 : IntKind.u64.wrap ((x : Int) * (y : Int)) = (x : Int) * (y : Int) := IntWalk.u64_in _ (by rw [← Int.natCast_mul]; omega)
          have e2 : IntKind.u64.wrap ((x : Int) * (y : Int) + (z : Int)) = (x : Int) * (y : Int) + (z : Int) := IntWalk.u64_in _ (by rw [← Int.natCast_mul]; omega)
          have e3 : IntKind.u64.wrap ((x : Int) * (y : Int) + (z : Int) + (c' : Int)) = (x : Int) * (y : Int) + (z : Int) + (c' : Int) := IntWalk.u64_in _ (by rw [← Int.natCast_mul]; omega)
          have HDE := hid hde
          have Hd := hid (show ((x : Int) * (y : Int) + (z : Int) + (c' : Int)) % 4294967296 = (d : Int) by rw [← Int.natCast_mul]; omega)
          have He := hid (show ((x : Int) * (y : Int) + (z : Int) + (c' : Int)) / 4294967296 = (e : Int) by rw [← Int.natCast_mul]; omega)
          clear hmb hd he hde
          go_wp2
          clear e1 e2 e3
          go_roundw
          case rel =>
            rw [Hd.out, He.out]
            refine ⟨m + 1, e, o'.set (k + m) d, upd f (k + m) (.int .u32 d), by omega, by go_num, rfl, he1, hbw.setCell (p := ⟨w2.heap.size, _, none⟩) hbel.size _, by simpa using hsz, hbw2.setCell (Nat.le_refl _) _, hown.set _ _, upd_set hpo HF.out d, ?_, ?_, ?_, ?_⟩
            · show (o'.set (k + m) d).length = n; simp [HL.out]
            · intro u hu
              rcases List.mem_or_eq_of_mem_set hu with h | h
              · exact HD.out u h
              omega
            · show limbsVal (o'.set (k + m) d) + 4294967296 ^ (k + (m + 1)) * e = _
              have h1 := HV.out
              have h2 := HS.out d
              rw [HT2.out, ← Nat.add_assoc k m 1, Nat.pow_succ, Nat.mul_assoc]
              have h3 : 4294967296 ^ (k + m) * d + 4294967296 ^ (k + m) * (4294967296 * e) = 4294967296 ^ (k + m) * (x * y) + 4294967296 ^ (k + m) * z + 4294967296 ^ (k + m) * c' := by rw [← Nat.mul_add, HDE.out, Nat.mul_add, Nat.mul_add]
              have h4 : 4294967296 ^ k * (x * (limbsVal (ys.take m) + 4294967296 ^ m * y)) = 4294967296 ^ k * (x * limbsVal (ys.take m)) + 4294967296 ^ (k + m) * (x * y) := by
                rw [Nat.mul_add, Nat.mul_add, Nat.pow_add, Nat.mul_assoc (4294967296 ^ k)]
                congr 2
                rw [Nat.mul_left_comm]
              rw [h4]
              omega
            intro j hj
            have := HZ.out j hj
            simpa [List.getD, List.getElem?_set, show ¬ k + m = j by omega] using this
          case measure => simp [intOf]; omega
        have hm' : m = ys.length := by omega
        have hp : k + ys.length < o'.length := by rw [HL.out]; exact hkn
        have c1 := hown.cell hkn
        rw [HF.out] at c1
        have c2 := hown.frozen (k + ys.length)
        have hV2 : limbsVal (o'.set (k + ys.length) c') = limbsVal (xs.take (k + 1)) * limbsVal ys := by
          have h1 := HV.out
          have h2 := limbsVal_set o' (k + ys.length) c' hp
          have h3 := HZ.out (k + ys.length) (Nat.le_refl _)
          simp only [List.getD, List.getElem?_eq_getElem hp, Option.getD_some] at h3
          rw [h3] at h2
          rw [hm', List.take_length] at h1
          rw [HT.out, Nat.add_mul, Nat.mul_assoc]
          omega
        have HV2 := hid hV2
        clear hV2 hm'
        go_wp2
        go_roundw
        case rel =>
          refine ⟨k + 1, o'.set (k + ys.length) c', upd f (k + ys.length) (.int .u32 c'), by omega, by go_num, hbw.setCell (p := ⟨w2.heap.size, _, none⟩) hbel.size _, by simpa using hsz, hbw2.setCell (Nat.le_refl _) _, hown.set _ _, upd_set hp HF.out c', ?_, ?_, HV2.out, ?_⟩
          · show (o'.set _ _).length = n; simp [HL.out]
          · intro u hu
            rcases List.mem_or_eq_of_mem_set hu with h | h
            · exact HD.out u h
            omega
          intro j hj
          have := HZ.out j (by omega)
          simpa [List.getD, List.getElem?_set, show ¬ k + ys.length = j by omega] using this
        case measure => simp [intOf]; omega
    have hs : limbsVal o = strVal a * strVal b := by
      have h1 := HV.out
      rw [List.take_of_length_le (by omega), va.out, vb.out] at h1
      exact h1
    have HR := hid (text_any _ _ o _ (fun _ h => h) (by rw [HL.out]; have := HN.out; omega) (own_limbs hown HF.out HL.out (by have := HN.out; omega) HD.out))
    rw [hs] at HR
    clear hs
    go_wp2_with fail
    refine Calls.mono HR.out ?_
    rintro e' w3 ⟨rfl, hb3⟩
    go_wp2
    go_ret
    exact ⟨rfl, hbw.step hb3⟩
end Go.Proofs.YtokmkopihhnggaaDoor
end
section
/- natural: divideSmall: walked. -/
namespace Go.Proofs.YtokmkopihhnggaaDoor
open Go.RowKit
theorem or32_add (r x : Nat) (hr : r < 4294967296) (hx : x < 4294967296) : bits .or .u64 ((r : Int) * 4294967296) (x : Int) = ((r * 4294967296 + x : Nat) : Int) := by
  have e : (r : Int) * 4294967296 = ((r * 2 ^ 32 : Nat) : Int) := by rw [Int.natCast_mul]; rfl
  rw [e, u64_or_nat _ _ (by omega) (by omega), Nat.or_comm, or_add x r 32 (by omega)]
set_option maxRecDepth 100000 in
set_option maxHeartbeats 1000000 in
theorem divideSmall_any (S : Nat → Prop) (u : Value) (xs : List Nat) (d : Nat) (w : World) (hS : ∀ b, S b → b < w.heap.size) (hl : xs.length ≤ 1000000000000) (hd0 : 0 < d) (hd : d < 4294967296) (hu : rSlice 1 rU32 w S [u] xs) :
    Calls Tryd.prog 56 #[u, .int .u32 d] w fun e w' => ∃ r, e = .returned (.tuple #[r, .int .u32 ((limbsVal xs % d : Nat) : Int)]) ∧ rSlice 1 rU32 w' (LT w'.heap.size) [r] (limbsOf (limbsVal xs / d)) ∧ Below w.heap.size w w' := by
  have hxlt := hid (u32s_lt hu)
  obtain ⟨xa, xc, rfl, x1, x2, x3, x4⟩ := u32s_open hu
  have hn := len_le x1 x2
  have hmk := fun (w : World) => make_one (P := Tryd.prog) Tryd.underlying82 Tryd.infoU32 rfl w xs.length (by omega) (by omega)
  go_enter Tryd.func56, Tryd.ntmps56
  go_wp2
  clear hmk
  go_loopw [7, 8, 9] (fun r i _ wr => ∃ (k r' : Nat) (o : List Nat) (f : Nat → Value), k ≤ xs.length ∧ i = .int .i64 ((k : Int) - 1) ∧ r = .int .u64 (r' : Int) ∧ r' < d ∧ Below w.heap.size w wr ∧ w.heap.size < wr.heap.size ∧ Own wr w.heap.size 87 xs.length f ∧ Hid (∀ j, f j = .int .u32 ((o.getD j 0 : Nat) : Int)) ∧ Hid (o.length = xs.length) ∧ Hid (∀ x ∈ o, x < 4294967296) ∧
      Hid (limbsVal (xs.drop k) = limbsVal (o.drop k) * d + r')) (fun _ i _ _ => (intOf i + 1).toNat)
  case atStart =>
    refine ⟨xs.length, 0, List.replicate xs.length 0, _, Nat.le_refl _, rfl, rfl, hd0, (Below.refl _ _).alloc (Nat.le_refl _) _, by simp, Own.new _ _ _ _, fun j => ?_, by simp [Hid], fun x hx => ?_, ?_⟩
    · simp [List.getD, List.getElem?_replicate]; split <;> rfl
    · have := List.eq_of_mem_replicate hx; omega
    show limbsVal (xs.drop xs.length) = _
    rw [List.drop_length, List.drop_of_length_le (by simp)]; simp [limbsVal]
  case round =>
    obtain ⟨k, r', o, f, hk, rfl, rfl, hr', hbw, hsz, hown, HF, HL, HD, HV⟩ := hrel
    cases k with
    | zero =>
      have hs := HV.out
      rw [List.drop_zero, List.drop_zero] at hs
      have hq : limbsVal o = limbsVal xs / d := by rw [hs, Nat.mul_comm, Nat.mul_add_div hd0, Nat.div_eq_of_lt hr']; rfl
      have hrm : limbsVal xs % d = r' := by rw [hs, Nat.mul_comm, Nat.mul_add_mod, Nat.mod_eq_of_lt hr']
      have hR := own_limbs hown HF.out HL.out (by omega) HD.out
      have HT := hid (trim_any _ _ _ _ hR)
      rw [hq] at HT
      have HRM := hid hrm
      clear hs hq hR hrm
      have hr32 : r' < 4294967296 := by omega
      go_wp2_with fail
      refine Calls.mono HT.out ?_
      rintro e' w3 ⟨r, rfl, rfl, hr⟩
      go_wp2
      go_ret2
      exact ⟨r, by rw [HRM.out]; rfl, hr, hbw⟩
    | succ k =>
      rw [show (((k + 1 : Nat) : Int) - 1) = (k : Int) by omega]
      have hlt : k < xs.length := by omega
      rcases x4 with rfl | ⟨b1, off1, rfl, x4⟩
      · simp at hlt
      obtain ⟨g0, g1⟩ := x4.u32 hlt
      rw [← hbw.cell (p := ⟨b1, off1 + k, none⟩) (hS _ x4.1)] at g0
      have c1 := hown.cell hlt
      rw [HF.out k] at c1
      have c2 := hown.frozen k
      have hr32 : r' < 4294967296 := by omega
      obtain ⟨x, hx⟩ : ∃ x, x = xs[k] := ⟨_, rfl⟩
      have HX := hid (show limbsVal (xs.drop k) = x + 4294967296 * limbsVal (xs.drop (k + 1)) by rw [hx, List.drop_eq_getElem_cons hlt]; rfl)
      rw [← hx] at g0 g1
      clear hx
      have o1 := or32_add r' x hr32 g1
      obtain ⟨q, hq⟩ : ∃ q : Nat, q = (r' * 4294967296 + x) / d := ⟨_, rfl⟩
      obtain ⟨r2, hr2⟩ : ∃ r2 : Nat, r2 = (r' * 4294967296 + x) % d := ⟨_, rfl⟩
      have hqr : d * q + r2 = r' * 4294967296 + x := by rw [hq, hr2]; exact Nat.div_add_mod _ _
      have hr2d : r2 < d := by rw [hr2]; exact Nat.mod_lt _ hd0
      have hq32 : q < 4294967296 := by
        rw [hq]
        apply Nat.div_lt_of_lt_mul
        have := Nat.mul_le_mul_right 4294967296 (show r' + 1 ≤ d from hr')
        rw [Nat.add_mul] at this
        omega
      have Q1 := hid (show (((r' : Int) * 4294967296 + (x : Int)) / (d : Int)) % 4294967296 = (q : Int) by
        have : ((r' : Int) * 4294967296 + (x : Int)) / (d : Int) = (q : Int) := by rw [hq, Int.natCast_ediv, Int.natCast_add, Int.natCast_mul]; rfl
        rw [this]; omega)
      have Q2 := hid (show (((r' : Int) * 4294967296 + (x : Int)) % (d : Int)) = (r2 : Int) by rw [hr2, Int.natCast_emod, Int.natCast_add, Int.natCast_mul]; rfl)
      have HQR := hid hqr
      clear hq hr2 hqr
      go_wp2
      clear o1
      go_roundw
      case rel =>
        rw [Q1.out, Q2.out]
        have hko : k < o.length := by rw [HL.out]; exact hlt
        refine ⟨k, r2, o.set k q, upd f k (.int .u32 q), by omega, rfl, rfl, hr2d, hbw.setCell (Nat.le_refl _) _, by simpa using hsz, hown.set _ _, upd_set hko HF.out q, ?_, ?_, ?_⟩
        · show (o.set k q).length = _; simp [HL.out]
        · intro u hu
          rcases List.mem_or_eq_of_mem_set hu with h | h
          · exact HD.out u h
          omega
        show limbsVal (xs.drop k) = limbsVal ((o.set k q).drop k) * d + r2
        have e : (o.set k q).drop k = q :: o.drop (k + 1) := by
          rw [List.drop_eq_getElem_cons (by simpa using hko), List.drop_set_of_lt (by omega)]
          simp
        rw [HX.out, HV.out, e]
        show _ = (q + 4294967296 * limbsVal (o.drop (k + 1))) * d + r2
        have h1 := HQR.out
        rw [Nat.add_mul, Nat.mul_add, Nat.mul_assoc 4294967296, Nat.mul_comm q d]
        omega
      case measure => simp [intOf]
end Go.Proofs.YtokmkopihhnggaaDoor
end
section
/- insolvencyref1: order, short: walked. -/
namespace Go.Proofs.YtokmkopihhnggaaDoor
open Go.RowKit
end Go.Proofs.YtokmkopihhnggaaDoor
end
section
/- insolvencyref1: times: walked. -/
namespace Go.Proofs.YtokmkopihhnggaaDoor
open Go.RowKit
end Go.Proofs.YtokmkopihhnggaaDoor
end
section
/- insolvencyref1: minus: walked. -/
namespace Go.Proofs.YtokmkopihhnggaaDoor
open Go.RowKit
end Go.Proofs.YtokmkopihhnggaaDoor
end
section
/- insolvencyref1: plus: walked. -/
namespace Go.Proofs.YtokmkopihhnggaaDoor
open Go.RowKit
end Go.Proofs.YtokmkopihhnggaaDoor
end
