/- natural: Add, subtract, Subtract: walked. -/
import Derived.Test.YtgmedcncbpdimaaDoorNat5M
set_option linter.unusedVariables false
set_option linter.unusedSimpArgs false
/- natural: Add, subtract, Subtract: walked. -/
namespace Go.Proofs.YtgmedcncbpdimaaDoor
open Go.RowKit

set_option maxRecDepth 100000 in
set_option maxHeartbeats 1000000 in
theorem add_any (a b : ByteArray) (w : World) (ha : a.size ≤ 500000000000) (hb : b.size ≤ 500000000000) :
    Calls Tryd.prog 72 #[.string a, .string b] w fun e w' => e = .returned (.string (natStr (strVal a + strVal b))) ∧ Below w.heap.size w w' := by
  have la : (limbsOf (strVal a)).length ≤ 500000000000 := by
    refine Nat.le_trans (limbs_blen _) (Nat.le_trans ?_ ha)
    exact natBytes_len_le (strVal_lt a)
  have lb : (limbsOf (strVal b)).length ≤ 500000000000 := by
    refine Nat.le_trans (limbs_blen _) (Nat.le_trans ?_ hb)
    exact natBytes_len_le (strVal_lt b)
  have va := hid (limbsVal_limbsOf (strVal a))
  have vb := hid (limbsVal_limbsOf (strVal b))
  have H1 := hid (parse_any a w (by omega))
  go_enter Tryd.func72, Tryd.ntmps72
  go_wp2_with fail
  refine Calls.mono H1.out ?_
  rintro e w1 ⟨p, rfl, hp, hb1⟩
  go_wp2_with fail
  refine (parse_any b w1 (by omega)).mono ?_
  rintro e w2 ⟨q, rfl, hq, hb2⟩
  have hp2 := (stays_rSlice stays_rU32).below hp hb2 hb2.size
  clear hp
  have hbel := hb1.step hb2
  obtain ⟨pa, pc, rfl, p1, p2, p3, p4⟩ := u32s_open hp2
  obtain ⟨qa, qc, rfl, q1, q2, q3, q4⟩ := u32s_open hq
  by_cases hl : (limbsOf (strVal a)).length < (limbsOf (strVal b)).length
  · skip
    obtain ⟨m, hm⟩ : ∃ m : Nat, m = (limbsOf (strVal b)).length + 1 := ⟨_, rfl⟩
    have hm1 : ((limbsOf (strVal b)).length : Int) + 1 = (m : Int) := by omega
    have hmk := fun (w : World) => make_one (P := Tryd.prog) Tryd.underlying83 Tryd.infoU32 rfl w m (by omega) (by omega)
    have HM := hid hm
    clear hm
    go_wp2
    clear hmk
    go_loopw [8, 9, 10, 28] (fun c _ _ i wr => ∃ (k c' : Nat) (ds : List Nat) (f : Nat → Value), k ≤ (limbsOf (strVal b)).length ∧ i = .int .i64 k ∧ c = .int .u32 (c' : Int) ∧ c' ≤ 1 ∧ Below w.heap.size w wr ∧ w2.heap.size < wr.heap.size ∧ Below w2.heap.size w2 wr ∧ Own wr w2.heap.size 85 m f ∧ Hid (∀ j, f j = .int .u32 ((ds.getD j 0 : Nat) : Int)) ∧ Hid (ds.length = k) ∧ Hid (∀ x ∈ ds, x < 4294967296) ∧
      Hid (limbsVal ds + 4294967296 ^ k * c' = limbsVal ((limbsOf (strVal b)).take k) + limbsVal ((limbsOf (strVal a)).take k))) (fun _ _ _ i _ => (limbsOf (strVal b)).length - (intOf i).toNat)
    case atStart => exact ⟨0, 0, [], _, Nat.zero_le _, rfl, rfl, by omega, hbel.alloc hbel.size _, by simp, (Below.refl _ _).alloc (Nat.le_refl _) _, Own.new _ _ _ _, fun j => by simp, rfl, fun x hx => by simp at hx, by simp [Hid, limbsVal]⟩
    case round =>
      obtain ⟨k, c', ds, f, hk, rfl, rfl, hc', hbw, hsz, hbw2, hown, HF, HL, HD, HV⟩ := hrel
      by_cases hlt : k < (limbsOf (strVal b)).length
      · have hkm : k < m := by have := HM.out; omega
        rcases q4 with h0 | ⟨b1, off1, rfl, x4⟩
        · rw [h0] at hlt; simp at hlt
        obtain ⟨g0, g1⟩ := x4.u32 hlt
        rw [← hbw2.cell (p := ⟨b1, off1 + k, none⟩) x4.1] at g0
        have c1 := hown.cell hkm
        rw [HF.out k] at c1
        have c2 := hown.frozen k
        have e1 := take_succ_getD (limbsOf (strVal b)) k
        have e2 := take_succ_getD (limbsOf (strVal a)) k
        have ex : (limbsOf (strVal b)).getD k 0 = (limbsOf (strVal b))[k] := by simp [List.getD, hlt]
        rw [ex] at e1
        have E1 := hid e1
        have E2 := hid e2
        clear e1 e2 ex
        by_cases hy : k < (limbsOf (strVal a)).length
        · rcases p4 with h0 | ⟨b2, off2, rfl, y4⟩
          · rw [h0] at hy; simp at hy
          obtain ⟨f0, f1⟩ := y4.u32 hy
          rw [← hbw2.cell (p := ⟨b2, off2 + k, none⟩) y4.1] at f0
          have ey := hid (show (limbsOf (strVal a)).getD k 0 = (limbsOf (strVal a))[k] by simp [List.getD, hy])
          obtain ⟨d, hd⟩ : ∃ d : Nat, (d : Int) = (((limbsOf (strVal b))[k] : Int) + ((limbsOf (strVal a))[k] : Int) + (c' : Int)) % 4294967296 := ⟨(((limbsOf (strVal b))[k] + (limbsOf (strVal a))[k] + c') % 4294967296), by omega⟩
          obtain ⟨e, he⟩ : ∃ e : Nat, (e : Int) = (((limbsOf (strVal b))[k] : Int) + ((limbsOf (strVal a))[k] : Int) + (c' : Int)) / 4294967296 := ⟨(((limbsOf (strVal b))[k] + (limbsOf (strVal a))[k] + c') / 4294967296), by omega⟩
          have hde : d + 4294967296 * e = (limbsOf (strVal b))[k] + (limbsOf (strVal a))[k] + c' := by omega
          have hd1 : d < 4294967296 := by omega
          have he1 : e ≤ 1 := by omega
          have HA := hid (add32_any ((limbsOf (strVal b))[k] : Int) ((limbsOf (strVal a))[k] : Int) (c' : Int) wr (by omega) (by omega) (by omega) (by omega) (by omega) (by omega))
          rw [← hd, ← he] at HA
          have HDE := hid hde
          clear hd he hde
          go_wp2_with fail
          refine Calls.mono HA.out ?_
          rintro e' w3 ⟨rfl, rfl⟩
          clear HA
          go_wp2
          go_roundw
          case rel =>
            refine ⟨k + 1, e, ds ++ [d], upd f k (.int .u32 d), by omega, by go_num, rfl, he1, hbw.setCell (by simpa using hbel.size) _, by simpa using hsz, hbw2.setCell (Nat.le_refl _) _, hown.set _ _, upd_snoc HL.out HF.out d, ?_, ?_, ?_⟩
            · show (ds ++ [d]).length = k + 1; simp [HL.out]
            · intro x hx; rcases List.mem_append.1 hx with h | h
              · exact HD.out x h
              · simp at h; omega
            · show limbsVal (ds ++ [d]) + 4294967296 ^ (k + 1) * e = _
              rw [limbsVal_snoc, HL.out, E1.out, E2.out, ey.out, Nat.pow_succ, Nat.mul_assoc]
              have h1 := HV.out
              have h2 : 4294967296 ^ k * d + 4294967296 ^ k * (4294967296 * e) = 4294967296 ^ k * (limbsOf (strVal b))[k] + 4294967296 ^ k * (limbsOf (strVal a))[k] + 4294967296 ^ k * c' := by rw [← Nat.mul_add, HDE.out, Nat.mul_add, Nat.mul_add]
              omega
          case measure => simp [intOf]; omega
        · have ey := hid (show (limbsOf (strVal a)).getD k 0 = 0 by simp [List.getD, List.getElem?_eq_none (by omega : (limbsOf (strVal a)).length ≤ k)])
          obtain ⟨d, hd⟩ : ∃ d : Nat, (d : Int) = (((limbsOf (strVal b))[k] : Int) + 0 + (c' : Int)) % 4294967296 := ⟨(((limbsOf (strVal b))[k] + c') % 4294967296), by omega⟩
          obtain ⟨e, he⟩ : ∃ e : Nat, (e : Int) = (((limbsOf (strVal b))[k] : Int) + 0 + (c' : Int)) / 4294967296 := ⟨(((limbsOf (strVal b))[k] + c') / 4294967296), by omega⟩
          have hde : d + 4294967296 * e = (limbsOf (strVal b))[k] + c' := by omega
          have hd1 : d < 4294967296 := by omega
          have he1 : e ≤ 1 := by omega
          have HA := hid (add32_any ((limbsOf (strVal b))[k] : Int) 0 (c' : Int) wr (by omega) (by omega) (by omega) (by omega) (by omega) (by omega))
          rw [← hd, ← he] at HA
          have HDE := hid hde
          clear hd he hde
          go_wp2_with fail
          refine Calls.mono HA.out ?_
          rintro e' w3 ⟨rfl, rfl⟩
          clear HA
          go_wp2
          go_roundw
          case rel =>
            refine ⟨k + 1, e, ds ++ [d], upd f k (.int .u32 d), by omega, by go_num, rfl, he1, hbw.setCell (by simpa using hbel.size) _, by simpa using hsz, hbw2.setCell (Nat.le_refl _) _, hown.set _ _, upd_snoc HL.out HF.out d, ?_, ?_, ?_⟩
            · show (ds ++ [d]).length = k + 1; simp [HL.out]
            · intro x hx; rcases List.mem_append.1 hx with h | h
              · exact HD.out x h
              · simp at h; omega
            · show limbsVal (ds ++ [d]) + 4294967296 ^ (k + 1) * e = _
              rw [limbsVal_snoc, HL.out, E1.out, E2.out, ey.out, Nat.pow_succ, Nat.mul_assoc]
              have h1 := HV.out
              have h2 : 4294967296 ^ k * d + 4294967296 ^ k * (4294967296 * e) = 4294967296 ^ k * (limbsOf (strVal b))[k] + 4294967296 ^ k * c' := by rw [← Nat.mul_add, HDE.out, Nat.mul_add]
              omega
          case measure => simp [intOf]; omega
      · have hk' : k = (limbsOf (strVal b)).length := by omega
        have hkm : (limbsOf (strVal b)).length < m := by have := HM.out; omega
        have hs : limbsVal (ds ++ [c']) = strVal a + strVal b := by
          have h1 := HV.out
          rw [List.take_of_length_le (by omega), List.take_of_length_le (by omega), va.out, vb.out] at h1
          rw [limbsVal_snoc, HL.out]; omega
        have HR := hid (fun ww (h : Own ww w2.heap.size 85 m (upd f (limbsOf (strVal b)).length (.int .u32 c'))) => text_any _ _ (ds ++ [c']) _ (fun _ h => h) (by simp [HL.out]; have := HM.out; omega) (own_limbs h (by rw [← hk']; exact upd_snoc HL.out HF.out c') (by simp [HL.out]; have := HM.out; omega) (by omega) (by intro x hx; rcases List.mem_append.1 hx with h | h; exact HD.out x h; simp at h; omega)))
        rw [hs] at HR
        have c1 := hown.cell hkm
        rw [HF.out] at c1
        have c2 := hown.frozen (limbsOf (strVal b)).length
        clear hs hk'
        go_wp2_with fail
        refine Calls.mono (HR.out _ (hown.set _ _)) ?_
        rintro e' w3 ⟨rfl, hb3⟩
        go_wp2
        go_ret
        exact ⟨rfl, (hbw.setCell (p := ⟨w2.heap.size, _, none⟩) hbel.size _).step hb3⟩
  · skip
    obtain ⟨m, hm⟩ : ∃ m : Nat, m = (limbsOf (strVal a)).length + 1 := ⟨_, rfl⟩
    have hm1 : ((limbsOf (strVal a)).length : Int) + 1 = (m : Int) := by omega
    have hmk := fun (w : World) => make_one (P := Tryd.prog) Tryd.underlying83 Tryd.infoU32 rfl w m (by omega) (by omega)
    have HM := hid hm
    clear hm
    go_wp2
    clear hmk
    go_loopw [8, 9, 10, 28] (fun c _ _ i wr => ∃ (k c' : Nat) (ds : List Nat) (f : Nat → Value), k ≤ (limbsOf (strVal a)).length ∧ i = .int .i64 k ∧ c = .int .u32 (c' : Int) ∧ c' ≤ 1 ∧ Below w.heap.size w wr ∧ w2.heap.size < wr.heap.size ∧ Below w2.heap.size w2 wr ∧ Own wr w2.heap.size 85 m f ∧ Hid (∀ j, f j = .int .u32 ((ds.getD j 0 : Nat) : Int)) ∧ Hid (ds.length = k) ∧ Hid (∀ x ∈ ds, x < 4294967296) ∧
      Hid (limbsVal ds + 4294967296 ^ k * c' = limbsVal ((limbsOf (strVal a)).take k) + limbsVal ((limbsOf (strVal b)).take k))) (fun _ _ _ i _ => (limbsOf (strVal a)).length - (intOf i).toNat)
    case atStart => exact ⟨0, 0, [], _, Nat.zero_le _, rfl, rfl, by omega, hbel.alloc hbel.size _, by simp, (Below.refl _ _).alloc (Nat.le_refl _) _, Own.new _ _ _ _, fun j => by simp, rfl, fun x hx => by simp at hx, by simp [Hid, limbsVal]⟩
    case round =>
      obtain ⟨k, c', ds, f, hk, rfl, rfl, hc', hbw, hsz, hbw2, hown, HF, HL, HD, HV⟩ := hrel
      by_cases hlt : k < (limbsOf (strVal a)).length
      · have hkm : k < m := by have := HM.out; omega
        rcases p4 with h0 | ⟨b1, off1, rfl, x4⟩
        · rw [h0] at hlt; simp at hlt
        obtain ⟨g0, g1⟩ := x4.u32 hlt
        rw [← hbw2.cell (p := ⟨b1, off1 + k, none⟩) x4.1] at g0
        have c1 := hown.cell hkm
        rw [HF.out k] at c1
        have c2 := hown.frozen k
        have e1 := take_succ_getD (limbsOf (strVal a)) k
        have e2 := take_succ_getD (limbsOf (strVal b)) k
        have ex : (limbsOf (strVal a)).getD k 0 = (limbsOf (strVal a))[k] := by simp [List.getD, hlt]
        rw [ex] at e1
        have E1 := hid e1
        have E2 := hid e2
        clear e1 e2 ex
        by_cases hy : k < (limbsOf (strVal b)).length
        · rcases q4 with h0 | ⟨b2, off2, rfl, y4⟩
          · rw [h0] at hy; simp at hy
          obtain ⟨f0, f1⟩ := y4.u32 hy
          rw [← hbw2.cell (p := ⟨b2, off2 + k, none⟩) y4.1] at f0
          have ey := hid (show (limbsOf (strVal b)).getD k 0 = (limbsOf (strVal b))[k] by simp [List.getD, hy])
          obtain ⟨d, hd⟩ : ∃ d : Nat, (d : Int) = (((limbsOf (strVal a))[k] : Int) + ((limbsOf (strVal b))[k] : Int) + (c' : Int)) % 4294967296 := ⟨(((limbsOf (strVal a))[k] + (limbsOf (strVal b))[k] + c') % 4294967296), by omega⟩
          obtain ⟨e, he⟩ : ∃ e : Nat, (e : Int) = (((limbsOf (strVal a))[k] : Int) + ((limbsOf (strVal b))[k] : Int) + (c' : Int)) / 4294967296 := ⟨(((limbsOf (strVal a))[k] + (limbsOf (strVal b))[k] + c') / 4294967296), by omega⟩
          have hde : d + 4294967296 * e = (limbsOf (strVal a))[k] + (limbsOf (strVal b))[k] + c' := by omega
          have hd1 : d < 4294967296 := by omega
          have he1 : e ≤ 1 := by omega
          have HA := hid (add32_any ((limbsOf (strVal a))[k] : Int) ((limbsOf (strVal b))[k] : Int) (c' : Int) wr (by omega) (by omega) (by omega) (by omega) (by omega) (by omega))
          rw [← hd, ← he] at HA
          have HDE := hid hde
          clear hd he hde
          go_wp2_with fail
          refine Calls.mono HA.out ?_
          rintro e' w3 ⟨rfl, rfl⟩
          clear HA
          go_wp2
          go_roundw
          case rel =>
            refine ⟨k + 1, e, ds ++ [d], upd f k (.int .u32 d), by omega, by go_num, rfl, he1, hbw.setCell (by simpa using hbel.size) _, by simpa using hsz, hbw2.setCell (Nat.le_refl _) _, hown.set _ _, upd_snoc HL.out HF.out d, ?_, ?_, ?_⟩
            · show (ds ++ [d]).length = k + 1; simp [HL.out]
            · intro x hx; rcases List.mem_append.1 hx with h | h
              · exact HD.out x h
              · simp at h; omega
            · show limbsVal (ds ++ [d]) + 4294967296 ^ (k + 1) * e = _
              rw [limbsVal_snoc, HL.out, E1.out, E2.out, ey.out, Nat.pow_succ, Nat.mul_assoc]
              have h1 := HV.out
              have h2 : 4294967296 ^ k * d + 4294967296 ^ k * (4294967296 * e) = 4294967296 ^ k * (limbsOf (strVal a))[k] + 4294967296 ^ k * (limbsOf (strVal b))[k] + 4294967296 ^ k * c' := by rw [← Nat.mul_add, HDE.out, Nat.mul_add, Nat.mul_add]
              omega
          case measure => simp [intOf]; omega
        · have ey := hid (show (limbsOf (strVal b)).getD k 0 = 0 by simp [List.getD, List.getElem?_eq_none (by omega : (limbsOf (strVal b)).length ≤ k)])
          obtain ⟨d, hd⟩ : ∃ d : Nat, (d : Int) = (((limbsOf (strVal a))[k] : Int) + 0 + (c' : Int)) % 4294967296 := ⟨(((limbsOf (strVal a))[k] + c') % 4294967296), by omega⟩
          obtain ⟨e, he⟩ : ∃ e : Nat, (e : Int) = (((limbsOf (strVal a))[k] : Int) + 0 + (c' : Int)) / 4294967296 := ⟨(((limbsOf (strVal a))[k] + c') / 4294967296), by omega⟩
          have hde : d + 4294967296 * e = (limbsOf (strVal a))[k] + c' := by omega
          have hd1 : d < 4294967296 := by omega
          have he1 : e ≤ 1 := by omega
          have HA := hid (add32_any ((limbsOf (strVal a))[k] : Int) 0 (c' : Int) wr (by omega) (by omega) (by omega) (by omega) (by omega) (by omega))
          rw [← hd, ← he] at HA
          have HDE := hid hde
          clear hd he hde
          go_wp2_with fail
          refine Calls.mono HA.out ?_
          rintro e' w3 ⟨rfl, rfl⟩
          clear HA
          go_wp2
          go_roundw
          case rel =>
            refine ⟨k + 1, e, ds ++ [d], upd f k (.int .u32 d), by omega, by go_num, rfl, he1, hbw.setCell (by simpa using hbel.size) _, by simpa using hsz, hbw2.setCell (Nat.le_refl _) _, hown.set _ _, upd_snoc HL.out HF.out d, ?_, ?_, ?_⟩
            · show (ds ++ [d]).length = k + 1; simp [HL.out]
            · intro x hx; rcases List.mem_append.1 hx with h | h
              · exact HD.out x h
              · simp at h; omega
            · show limbsVal (ds ++ [d]) + 4294967296 ^ (k + 1) * e = _
              rw [limbsVal_snoc, HL.out, E1.out, E2.out, ey.out, Nat.pow_succ, Nat.mul_assoc]
              have h1 := HV.out
              have h2 : 4294967296 ^ k * d + 4294967296 ^ k * (4294967296 * e) = 4294967296 ^ k * (limbsOf (strVal a))[k] + 4294967296 ^ k * c' := by rw [← Nat.mul_add, HDE.out, Nat.mul_add]
              omega
          case measure => simp [intOf]; omega
      · have hk' : k = (limbsOf (strVal a)).length := by omega
        have hkm : (limbsOf (strVal a)).length < m := by have := HM.out; omega
        have hs : limbsVal (ds ++ [c']) = strVal a + strVal b := by
          have h1 := HV.out
          rw [List.take_of_length_le (by omega), List.take_of_length_le (by omega), va.out, vb.out] at h1
          rw [limbsVal_snoc, HL.out]; omega
        have HR := hid (fun ww (h : Own ww w2.heap.size 85 m (upd f (limbsOf (strVal a)).length (.int .u32 c'))) => text_any _ _ (ds ++ [c']) _ (fun _ h => h) (by simp [HL.out]; have := HM.out; omega) (own_limbs h (by rw [← hk']; exact upd_snoc HL.out HF.out c') (by simp [HL.out]; have := HM.out; omega) (by omega) (by intro x hx; rcases List.mem_append.1 hx with h | h; exact HD.out x h; simp at h; omega)))
        rw [hs] at HR
        have c1 := hown.cell hkm
        rw [HF.out] at c1
        have c2 := hown.frozen (limbsOf (strVal a)).length
        clear hs hk'
        go_wp2_with fail
        refine Calls.mono (HR.out _ (hown.set _ _)) ?_
        rintro e' w3 ⟨rfl, hb3⟩
        go_wp2
        go_ret
        exact ⟨rfl, (hbw.setCell (p := ⟨w2.heap.size, _, none⟩) hbel.size _).step hb3⟩

end Go.Proofs.YtgmedcncbpdimaaDoor
