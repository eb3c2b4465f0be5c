/- insolvencyref1: minus: walked. -/
import Derived.Test.YtgmedcncbpdimaaDoorRef3M
import Derived.Test.YtgmedcncbpdimaaDoorNat9M
set_option linter.unusedVariables false
set_option linter.unusedSimpArgs false
/- insolvencyref1: minus: walked. -/
namespace Go.Proofs.YtgmedcncbpdimaaDoor
open Go.RowKit

theorem minus_arith {P d y x e ld lx ly c' : Nat} (h : d + (c' + y) = x + 4294967296 * e) (hV : ld + ly = lx + P * c') : ld + P * d + (ly + P * y) = lx + P * x + P * 4294967296 * e := by
  have h2 : P * d + (P * c' + P * y) = P * x + P * 4294967296 * e := by rw [← Nat.mul_add, ← Nat.mul_add, h, Nat.mul_add, Nat.mul_assoc]
  omega

set_option maxRecDepth 100000 in
set_option maxHeartbeats 1000000 in
theorem minus_any (S : Nat → Prop) (u v : Value) (x y : Nat) (w : World) (hS : ∀ b, S b → b < w.heap.size) (hl : (limbsOf x).length ≤ 1000000000000) (hyx : y ≤ x) (hu : rSlice 1 rU32 w S [u] (limbsOf x)) (hv : rSlice 1 rU32 w S [v] (limbsOf y)) :
    Calls Tryd.prog 71 #[u, v] w fun e w' => ∃ r, e = .returned r ∧ rSlice 1 rU32 w' (LT w'.heap.size) [r] (limbsOf (x - y)) ∧ Below w.heap.size w w' := by
  have hxlt := hid (limbsOf_lt x)
  have hylt := hid (limbsOf_lt y)
  have vx := hid (limbsVal_limbsOf x)
  have vy := hid (limbsVal_limbsOf y)
  have hylen : (limbsOf y).length ≤ (limbsOf x).length := by
    rcases Nat.lt_or_ge (limbsOf x).length (limbsOf y).length with h | h
    · have := limbs_len_lt h; omega
    · exact h
  obtain ⟨xa, xc, rfl, x1, x2, x3, x4⟩ := u32s_open hu
  obtain ⟨ya, yc, rfl, y1, y2, y3, y4⟩ := u32s_open hv
  generalize limbsOf x = xs at *
  generalize limbsOf y = ys at *
  have hn := len_le x1 x2
  have hmk := fun (w : World) => make_one (P := Tryd.prog) Tryd.underlying73 Tryd.infoU32 rfl w xs.length (by omega) (by omega)
  go_enter Tryd.func71, Tryd.ntmps71
  go_wp2
  clear hmk
  go_loopw [6, 7, 8, 9] (fun c i _ _ wr => ∃ (k c' : Nat) (ds : List Nat) (f : Nat → Value), k ≤ xs.length ∧ i = .int .i64 k ∧ c = .int .u64 (c' : Int) ∧ Hid (c' ≤ 1) ∧ Below w.heap.size w wr ∧ w.heap.size < wr.heap.size ∧ Own wr w.heap.size 85 xs.length f ∧ Hid (∀ j, f j = .int .u32 ((ds.getD j 0 : Nat) : Int)) ∧ Hid (ds.length = k) ∧ Hid (∀ x ∈ ds, x < 4294967296) ∧
      Hid (limbsVal ds + limbsVal (ys.take k) = limbsVal (xs.take k) + 4294967296 ^ k * c')) (fun _ i _ _ _ => xs.length - (intOf i).toNat)
  case atStart => exact ⟨0, 0, [], _, Nat.zero_le _, rfl, rfl, by show 0 ≤ 1; omega, (Below.refl _ _).alloc (Nat.le_refl _) _, by simp, Own.new _ _ _ _, fun j => by simp, rfl, fun x hx => by simp at hx, by simp [Hid, limbsVal]⟩
  case round =>
    obtain ⟨k, c', ds, f, hk, rfl, rfl, hc', hbw, hsz, hown, HF, HL, HD, HV⟩ := hrel
    by_cases hlt : k < xs.length
    · rcases x4 with rfl | ⟨b1, off1, rfl, x4⟩
      · simp at hlt
      obtain ⟨g0, g1⟩ := x4.u32 hlt
      rw [← hbw.cell (p := ⟨b1, off1 + k, none⟩) (hS _ x4.1)] at g0
      have c1 := hown.cell hlt
      rw [HF.out k] at c1
      have c2 := hown.frozen k
      have e1 := take_succ_getD xs k
      have e2 := take_succ_getD ys k
      have ex : xs.getD k 0 = xs[k] := by simp [List.getD, hlt]
      rw [ex] at e1
      obtain ⟨X, hX⟩ : ∃ X, X = xs[k] := ⟨_, rfl⟩
      rw [← hX] at e1 g0 g1
      have E1 := hid e1
      clear e1 ex hX
      by_cases hy : k < ys.length
      · rcases y4 with rfl | ⟨b2, off2, rfl, y4⟩
        · simp at hy
        obtain ⟨f0, f1⟩ := y4.u32 hy
        rw [← hbw.cell (p := ⟨b2, off2 + k, none⟩) (hS _ y4.1)] at f0
        have ey : ys.getD k 0 = ys[k] := by simp [List.getD, hy]
        rw [ey] at e2
        obtain ⟨yk, hyk⟩ : ∃ X, X = ys[k] := ⟨_, rfl⟩
        rw [← hyk] at e2 f0 f1
        have E2 := hid e2
        obtain ⟨Y, hY⟩ : ∃ Y, Y = c' + yk := ⟨_, rfl⟩
        have q1 : IntKind.u64.wrap ((c' : Int) + (yk : Int)) = (Y : Int) := by
          rw [show (c' : Int) + (yk : Int) = (Y : Int) by omega]; exact IntWalk.u64_in _ (by have := hc'.out; omega)
        clear ey e2 hyk
        by_cases hc : X < Y
        · obtain ⟨X2, hX2⟩ : ∃ X2, X2 = X + 4294967296 := ⟨_, rfl⟩
          obtain ⟨d, hd⟩ : ∃ d, d = X2 - Y := ⟨_, rfl⟩
          have hd1 : d < 4294967296 := by omega
          have q2 : IntKind.u64.wrap ((X : Int) + 4294967296) = (X2 : Int) := by
            rw [show (X : Int) + 4294967296 = (X2 : Int) by omega]; exact IntWalk.u64_in _ (by omega)
          have q3 : IntKind.u64.wrap ((X2 : Int) - (Y : Int)) = (d : Int) := by
            rw [show (X2 : Int) - (Y : Int) = (d : Int) by have := hc'.out; omega]; exact IntWalk.u64_in _ (by omega)
          have q4 : (d : Int) % 4294967296 = (d : Int) := by omega
          have HDE := hid (show d + (c' + yk) = X + 4294967296 * 1 by have := hc'.out; omega)
          have HD1 := hid hd1
          clear hd hY hX2 hd1
          go_wp2
          clear q1 q2 q3 q4
          go_roundw
          case rel =>
            refine ⟨k + 1, 1, ds ++ [d], upd f k (.int .u32 d), by omega, by go_num, rfl, by show _ ≤ 1; omega, hbw.setCell (Nat.le_refl _) _, by simpa using hsz, hown.set _ _, upd_snoc HL.out HF.out d, ?_, ?_, ?_⟩
            · show (ds ++ [d]).length = k + 1; simp [HL.out]
            · intro x hx; rcases List.mem_append.1 hx with h | h
              · exact HD.out x h
              · simp at h; have := HD1.out; omega
            · show limbsVal (ds ++ [d]) + limbsVal (ys.take (k + 1)) = limbsVal (xs.take (k + 1)) + 4294967296 ^ (k + 1) * 1
              rw [limbsVal_snoc, HL.out, E1.out, E2.out, Nat.pow_succ]
              exact minus_arith HDE.out HV.out
          case measure => simp [intOf]; omega
        · obtain ⟨d, hd⟩ : ∃ d, d = X - Y := ⟨_, rfl⟩
          have hd1 : d < 4294967296 := by omega
          have q3 : IntKind.u64.wrap ((X : Int) - (Y : Int)) = (d : Int) := by
            rw [show (X : Int) - (Y : Int) = (d : Int) by omega]; exact IntWalk.u64_in _ (by omega)
          have q4 : (d : Int) % 4294967296 = (d : Int) := by omega
          have HDE := hid (show d + (c' + yk) = X + 4294967296 * 0 by omega)
          have HD1 := hid hd1
          clear hd hY hd1
          go_wp2
          clear q1 q3 q4
          go_roundw
          case rel =>
            refine ⟨k + 1, 0, ds ++ [d], upd f k (.int .u32 d), by omega, by go_num, rfl, by show _ ≤ 1; omega, hbw.setCell (Nat.le_refl _) _, by simpa using hsz, hown.set _ _, upd_snoc HL.out HF.out d, ?_, ?_, ?_⟩
            · show (ds ++ [d]).length = k + 1; simp [HL.out]
            · intro x hx; rcases List.mem_append.1 hx with h | h
              · exact HD.out x h
              · simp at h; have := HD1.out; omega
            · show limbsVal (ds ++ [d]) + limbsVal (ys.take (k + 1)) = limbsVal (xs.take (k + 1)) + 4294967296 ^ (k + 1) * 0
              rw [limbsVal_snoc, HL.out, E1.out, E2.out, Nat.pow_succ]
              exact minus_arith HDE.out HV.out
          case measure => simp [intOf]; omega
      · have ey : ys.getD k 0 = 0 := by simp [List.getD, List.getElem?_eq_none (by omega : ys.length ≤ k)]
        rw [ey] at e2
        have f1 : 0 < 4294967296 := by decide
        have E2 := hid e2
        have hY : c' = c' + 0 := rfl
        clear ey e2
        by_cases hc : X < c'
        · obtain ⟨X2, hX2⟩ : ∃ X2, X2 = X + 4294967296 := ⟨_, rfl⟩
          obtain ⟨d, hd⟩ : ∃ d, d = X2 - c' := ⟨_, rfl⟩
          have hd1 : d < 4294967296 := by omega
          have q2 : IntKind.u64.wrap ((X : Int) + 4294967296) = (X2 : Int) := by
            rw [show (X : Int) + 4294967296 = (X2 : Int) by omega]; exact IntWalk.u64_in _ (by omega)
          have q3 : IntKind.u64.wrap ((X2 : Int) - (c' : Int)) = (d : Int) := by
            rw [show (X2 : Int) - (c' : Int) = (d : Int) by have := hc'.out; omega]; exact IntWalk.u64_in _ (by omega)
          have q4 : (d : Int) % 4294967296 = (d : Int) := by omega
          have HDE := hid (show d + (c' + 0) = X + 4294967296 * 1 by have := hc'.out; omega)
          have HD1 := hid hd1
          clear hd hY hX2 hd1
          go_wp2
          clear q2 q3 q4
          go_roundw
          case rel =>
            refine ⟨k + 1, 1, ds ++ [d], upd f k (.int .u32 d), by omega, by go_num, rfl, by show _ ≤ 1; omega, hbw.setCell (Nat.le_refl _) _, by simpa using hsz, hown.set _ _, upd_snoc HL.out HF.out d, ?_, ?_, ?_⟩
            · show (ds ++ [d]).length = k + 1; simp [HL.out]
            · intro x hx; rcases List.mem_append.1 hx with h | h
              · exact HD.out x h
              · simp at h; have := HD1.out; omega
            · show limbsVal (ds ++ [d]) + limbsVal (ys.take (k + 1)) = limbsVal (xs.take (k + 1)) + 4294967296 ^ (k + 1) * 1
              rw [limbsVal_snoc, HL.out, E1.out, E2.out, Nat.pow_succ]
              exact minus_arith HDE.out HV.out
          case measure => simp [intOf]; omega
        · obtain ⟨d, hd⟩ : ∃ d, d = X - c' := ⟨_, rfl⟩
          have hd1 : d < 4294967296 := by omega
          have q3 : IntKind.u64.wrap ((X : Int) - (c' : Int)) = (d : Int) := by
            rw [show (X : Int) - (c' : Int) = (d : Int) by omega]; exact IntWalk.u64_in _ (by omega)
          have q4 : (d : Int) % 4294967296 = (d : Int) := by omega
          have HDE := hid (show d + (c' + 0) = X + 4294967296 * 0 by omega)
          have HD1 := hid hd1
          clear hd hY hd1
          go_wp2
          clear q3 q4
          go_roundw
          case rel =>
            refine ⟨k + 1, 0, ds ++ [d], upd f k (.int .u32 d), by omega, by go_num, rfl, by show _ ≤ 1; omega, hbw.setCell (Nat.le_refl _) _, by simpa using hsz, hown.set _ _, upd_snoc HL.out HF.out d, ?_, ?_, ?_⟩
            · show (ds ++ [d]).length = k + 1; simp [HL.out]
            · intro x hx; rcases List.mem_append.1 hx with h | h
              · exact HD.out x h
              · simp at h; have := HD1.out; omega
            · show limbsVal (ds ++ [d]) + limbsVal (ys.take (k + 1)) = limbsVal (xs.take (k + 1)) + 4294967296 ^ (k + 1) * 0
              rw [limbsVal_snoc, HL.out, E1.out, E2.out, Nat.pow_succ]
              exact minus_arith HDE.out HV.out
          case measure => simp [intOf]; omega
    · have hk' : k = xs.length := by omega
      have hs : limbsVal ds = x - y := by
        have h1 := HV.out
        rw [List.take_of_length_le (by omega), List.take_of_length_le (by omega), vx.out, vy.out] at h1
        have h2 := limbsVal_lt HD.out
        rw [HL.out] at h2
        have : c' = 0 ∨ c' = 1 := by have := hc'.out; omega
        rcases this with h | h
        · subst h; omega
        · subst h; omega
      have hR := own_limbs hown HF.out (by rw [HL.out, hk']) (by omega) HD.out
      have HT := hid (strip_any _ _ _ _ hR)
      rw [hs] at HT
      clear hs hk' hR
      go_wp2_with fail
      refine Calls.mono HT.out ?_
      rintro e' w3 ⟨r, rfl, rfl, hr⟩
      go_wp2
      go_ret
      exact ⟨_, rfl, hr, hbw⟩

end Go.Proofs.YtgmedcncbpdimaaDoor
