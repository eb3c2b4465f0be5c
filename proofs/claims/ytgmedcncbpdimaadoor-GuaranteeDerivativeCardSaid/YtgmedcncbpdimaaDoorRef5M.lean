/- insolvencyref1: plus: walked. -/
import Derived.Test.YtgmedcncbpdimaaDoorRef4M
set_option linter.unusedVariables false
set_option linter.unusedSimpArgs false
/- insolvencyref1: plus: walked. -/
namespace Go.Proofs.YtgmedcncbpdimaaDoor
open Go.RowKit

theorem plus_arith {P d X Y e ld lx ly c' : Nat} (h : d + 4294967296 * e = c' + X + Y) (hV : ld + P * c' = lx + ly) : ld + P * d + P * 4294967296 * e = lx + P * X + (ly + P * Y) := by
  have h2 : P * d + P * 4294967296 * e = P * c' + P * X + P * Y := by rw [Nat.mul_assoc, ← Nat.mul_add, h, Nat.mul_add, Nat.mul_add]
  omega

theorem limbs_pow {x k : Nat} (h : k < (limbsOf x).length) : 4294967296 ^ k ≤ x := by
  rcases Nat.lt_or_ge x (4294967296 ^ k) with h1 | h1
  · have := limbsOf_len_le h1; omega
  · exact h1

theorem limbsOf_eq {ds : List Nat} {v k : Nat} (hk : ds.length = k) (hd : ∀ x ∈ ds, x < 4294967296) (hv : limbsVal ds = v) (h : k = 0 ∨ 4294967296 ^ (k - 1) ≤ v) : limbsOf v = ds := by
  have h1 := limbsVal_lt hd
  rw [hv, hk] at h1
  have h2 := limbsOf_len_le h1
  have h3 : (limbsOf v).length = k := by
    rcases h with h | h
    · omega
    · have := limbsOf_len_ge h; omega
  have a := limbsFix_of hd
  have b := limbsFix_of (limbsOf_lt v)
  rw [limbsVal_limbsOf, h3] at b
  rw [hk, hv] at a
  rw [← a, ← b]

set_option maxRecDepth 100000 in
set_option maxHeartbeats 1000000 in
theorem plus_any (S : Nat → Prop) (u v : Value) (x y : Nat) (w : World) (hS : ∀ b, S b → b < w.heap.size) (hl : (limbsOf x).length ≤ 1000000000000) (hl2 : (limbsOf y).length ≤ 1000000000000) (hu : rSlice 1 rU32 w S [u] (limbsOf x)) (hv : rSlice 1 rU32 w S [v] (limbsOf y)) :
    Calls Tryd.prog 69 #[u, v] w fun e w' => ∃ r, e = .returned r ∧ rSlice 1 rU32 w' (LT w'.heap.size) [r] (limbsOf (x + y)) ∧ Below w.heap.size w w' := by
  have vx := hid (limbsVal_limbsOf x)
  have vy := hid (limbsVal_limbsOf y)
  have HPx := hid (fun k (h : k < (limbsOf x).length) => limbs_pow h)
  have HPy := hid (fun k (h : k < (limbsOf y).length) => limbs_pow h)
  obtain ⟨xa, xc, rfl, x1, x2, x3, x4⟩ := u32s_open hu
  obtain ⟨ya, yc, rfl, y1, y2, y3, y4⟩ := u32s_open hv
  generalize limbsOf x = xs at *
  generalize limbsOf y = ys at *
  have hn := len_le x1 x2
  have hn' := len_le y1 y2
  go_enter Tryd.func69, Tryd.ntmps69
  go_wp2
  go_loopw [5, 6, 7] (fun p c i wr => ∃ (k c' : Nat) (ds : List Nat), Hid (k ≤ xs.length + ys.length + 1) ∧ i = .int .i64 k ∧ c = .int .u64 (c' : Int) ∧ c' ≤ 1 ∧ Below w.heap.size w wr ∧ rGrow 85 1 rU32 w.heap.size wr p ds ∧ Hid (ds.length = k) ∧ Hid (∀ x ∈ ds, x < 4294967296) ∧
      Hid (limbsVal ds + 4294967296 ^ k * c' = limbsVal (xs.take k) + limbsVal (ys.take k)) ∧ Hid (k = 0 ∨ 4294967296 ^ (k - 1) ≤ x + y) ∧ Hid (c' = 0 ∨ k ≤ xs.length ∨ k ≤ ys.length)) (fun _ _ i _ => xs.length + ys.length + 1 - (intOf i).toNat)
  case atStart => exact ⟨0, 0, [], Nat.zero_le _, rfl, rfl, by omega, Below.refl _ _, rGrow.nil _ _ _ _ _, rfl, fun x hx => by simp at hx, by simp [Hid, limbsVal], .inl rfl, .inl rfl⟩
  case round =>
    obtain ⟨k, c', ds, HK, rfl, rfl, hc', hbw, hg, HL, HD, HV, HT, HC⟩ := hrel
    have hkb : k ≤ 2000000000001 := by have := HK.out; omega
    have e1 := take_succ_getD xs k
    have e2 := take_succ_getD ys k
    have hsz := hbw.size
    by_cases ha : k < xs.length
    · by_cases hb : k < ys.length
      · rcases x4 with rfl | ⟨b1, off1, rfl, x4⟩
        · simp at ha
        obtain ⟨g0, g1⟩ := x4.u32 ha
        rw [← hbw.cell (p := ⟨b1, off1 + k, none⟩) (hS _ x4.1)] at g0
        have ex : xs.getD k 0 = xs[k] := by simp [List.getD, ha]
        rw [ex] at e1
        obtain ⟨X, hX⟩ : ∃ X, X = xs[k] := ⟨_, rfl⟩
        rw [← hX] at e1 g0 g1
        clear ex hX
        rcases y4 with rfl | ⟨b2, off2, rfl, y4⟩
        · simp at hb
        obtain ⟨f0, f1⟩ := y4.u32 hb
        rw [← hbw.cell (p := ⟨b2, off2 + k, none⟩) (hS _ y4.1)] at f0
        have ey : ys.getD k 0 = ys[k] := by simp [List.getD, hb]
        rw [ey] at e2
        obtain ⟨Y, hY⟩ : ∃ X, X = ys[k] := ⟨_, rfl⟩
        rw [← hY] at e2 f0 f1
        clear ey hY
        have E1 := hid e1
        have E2 := hid e2
        clear e1 e2
        obtain ⟨T, hT⟩ : ∃ T, T = c' + X + Y := ⟨_, rfl⟩
        obtain ⟨d, hd⟩ : ∃ d, d = T % 4294967296 := ⟨_, rfl⟩
        obtain ⟨e, he⟩ : ∃ e, e = T / 4294967296 := ⟨_, rfl⟩
        obtain ⟨T1, hT1⟩ : ∃ T, T = c' + X := ⟨_, rfl⟩
        have q1 : IntKind.u64.wrap ((c' : Int) + (X : Int)) = (T1 : Int) := by
          rw [show (c' : Int) + (X : Int) = (T1 : Int) by omega]; exact IntWalk.u64_in _ (by omega)
        have q2 : IntKind.u64.wrap ((T1 : Int) + (Y : Int)) = (T : Int) := by
          rw [show (T1 : Int) + (Y : Int) = (T : Int) by omega]; exact IntWalk.u64_in _ (by omega)
        have hd1 : d < 4294967296 := by omega
        have he1 : e ≤ 1 := by omega
        have q4 : (T : Int) % 4294967296 = (d : Int) := by omega
        have q5 : (T : Int) / 4294967296 = (e : Int) := by omega
        have HDE := hid (show d + 4294967296 * e = c' + X + Y by omega)
        have HK1 := hid (show k + 1 ≤ xs.length + ys.length + 1 by omega)
        have HD1 := hid hd1
        have HEB := hid he1
        have hg2 := hg.kept stays_rU32 ((Below.refl _ _).alloc (Nat.le_refl _) (.cells #[.int .u32 (d : Int)] 85))
        have hy : rU32 (wr.alloc (.cells #[.int .u32 (d : Int)] 85)) (Beside (wr.alloc (.cells #[.int .u32 (d : Int)] 85)) u5) [.int .u32 (d : Int)] d := ⟨rfl, hd1⟩
        clear hT hd he hT1 hd1 he1 hc'
        go_wp2_with (at_builtin; refine wpList_push _ rfl _ _ 73 rfl stays_rU32 w.heap.size 85 1 4 _ Tryd.underlying73 Tryd.infoU32 rfl (by omega) _ ds rfl hg2 ?hbase ?hbytes ?h63 wr.heap.size 1 [.int .u32 (d : Int)] rfl rfl ?hb rfl d hy ?_)
        case hbase => simp; omega
        case hbytes => rw [HL.out]; omega
        case h63 => rw [HL.out]; omega
        case hb => exact ⟨(0, 0), heap_alloc_new _ _⟩
        intro v' w' hg' hgr hbel'
        have hbel2 : Below w.heap.size w w' := (hbw.alloc hsz _).trans hbel'
        clear hy hg2 hg hbel' hgr
        go_wp2
        clear q1 q2 q4 q5
        go_roundw
        case rel =>
          refine ⟨k + 1, e, ds ++ [d], HK1, by go_num, rfl, HEB.out, hbel2, hg', ?_, ?_, ?_, ?_, .inr (.inl ha)⟩
          · show (ds ++ [d]).length = k + 1; simp [HL.out]
          · intro x hx; rcases List.mem_append.1 hx with h | h
            · exact HD.out x h
            · simp at h; have := HD1.out; omega
          · show limbsVal (ds ++ [d]) + 4294967296 ^ (k + 1) * e = limbsVal (xs.take (k + 1)) + limbsVal (ys.take (k + 1))
            rw [limbsVal_snoc, HL.out, E1.out, E2.out, Nat.pow_succ]
            exact plus_arith HDE.out HV.out
          · exact .inr (Nat.le_trans (HPx.out k ha) (Nat.le_add_right _ _))
        case measure => have := HK1.out; simp [intOf]; omega
      · rcases x4 with rfl | ⟨b1, off1, rfl, x4⟩
        · simp at ha
        obtain ⟨g0, g1⟩ := x4.u32 ha
        rw [← hbw.cell (p := ⟨b1, off1 + k, none⟩) (hS _ x4.1)] at g0
        have ex : xs.getD k 0 = xs[k] := by simp [List.getD, ha]
        rw [ex] at e1
        obtain ⟨X, hX⟩ : ∃ X, X = xs[k] := ⟨_, rfl⟩
        rw [← hX] at e1 g0 g1
        clear ex hX
        have ey : ys.getD k 0 = 0 := by simp [List.getD, List.getElem?_eq_none (by omega : ys.length ≤ k)]
        rw [ey] at e2
        clear ey
        have f1 : 0 < 4294967296 := by decide
        have E1 := hid e1
        have E2 := hid e2
        clear e1 e2
        obtain ⟨T, hT⟩ : ∃ T, T = c' + X + 0 := ⟨_, rfl⟩
        obtain ⟨d, hd⟩ : ∃ d, d = T % 4294967296 := ⟨_, rfl⟩
        obtain ⟨e, he⟩ : ∃ e, e = T / 4294967296 := ⟨_, rfl⟩
        have q1 : IntKind.u64.wrap ((c' : Int) + (X : Int)) = (T : Int) := by
          rw [show (c' : Int) + (X : Int) = (T : Int) by omega]; exact IntWalk.u64_in _ (by omega)
        have hd1 : d < 4294967296 := by omega
        have he1 : e ≤ 1 := by omega
        have q4 : (T : Int) % 4294967296 = (d : Int) := by omega
        have q5 : (T : Int) / 4294967296 = (e : Int) := by omega
        have HDE := hid (show d + 4294967296 * e = c' + X + 0 by omega)
        have HK1 := hid (show k + 1 ≤ xs.length + ys.length + 1 by omega)
        have HD1 := hid hd1
        have HEB := hid he1
        have hg2 := hg.kept stays_rU32 ((Below.refl _ _).alloc (Nat.le_refl _) (.cells #[.int .u32 (d : Int)] 85))
        have hy : rU32 (wr.alloc (.cells #[.int .u32 (d : Int)] 85)) (Beside (wr.alloc (.cells #[.int .u32 (d : Int)] 85)) u5) [.int .u32 (d : Int)] d := ⟨rfl, hd1⟩
        clear hT hd he hd1 he1 hc'
        go_wp2_with (at_builtin; refine wpList_push _ rfl _ _ 73 rfl stays_rU32 w.heap.size 85 1 4 _ Tryd.underlying73 Tryd.infoU32 rfl (by omega) _ ds rfl hg2 ?hbase ?hbytes ?h63 wr.heap.size 1 [.int .u32 (d : Int)] rfl rfl ?hb rfl d hy ?_)
        case hbase => simp; omega
        case hbytes => rw [HL.out]; omega
        case h63 => rw [HL.out]; omega
        case hb => exact ⟨(0, 0), heap_alloc_new _ _⟩
        intro v' w' hg' hgr hbel'
        have hbel2 : Below w.heap.size w w' := (hbw.alloc hsz _).trans hbel'
        clear hy hg2 hg hbel' hgr
        go_wp2
        clear q1 q4 q5
        go_roundw
        case rel =>
          refine ⟨k + 1, e, ds ++ [d], HK1, by go_num, rfl, HEB.out, hbel2, hg', ?_, ?_, ?_, ?_, .inr (.inl ha)⟩
          · show (ds ++ [d]).length = k + 1; simp [HL.out]
          · intro x hx; rcases List.mem_append.1 hx with h | h
            · exact HD.out x h
            · simp at h; have := HD1.out; omega
          · show limbsVal (ds ++ [d]) + 4294967296 ^ (k + 1) * e = limbsVal (xs.take (k + 1)) + limbsVal (ys.take (k + 1))
            rw [limbsVal_snoc, HL.out, E1.out, E2.out, Nat.pow_succ]
            exact plus_arith HDE.out HV.out
          · exact .inr (Nat.le_trans (HPx.out k ha) (Nat.le_add_right _ _))
        case measure => have := HK1.out; simp [intOf]; omega
    · by_cases hb : k < ys.length
      · have ex : xs.getD k 0 = 0 := by simp [List.getD, List.getElem?_eq_none (by omega : xs.length ≤ k)]
        rw [ex] at e1
        clear ex
        have g1 : 0 < 4294967296 := by decide
        rcases y4 with rfl | ⟨b2, off2, rfl, y4⟩
        · simp at hb
        obtain ⟨f0, f1⟩ := y4.u32 hb
        rw [← hbw.cell (p := ⟨b2, off2 + k, none⟩) (hS _ y4.1)] at f0
        have ey : ys.getD k 0 = ys[k] := by simp [List.getD, hb]
        rw [ey] at e2
        obtain ⟨Y, hY⟩ : ∃ X, X = ys[k] := ⟨_, rfl⟩
        rw [← hY] at e2 f0 f1
        clear ey hY
        have E1 := hid e1
        have E2 := hid e2
        clear e1 e2
        obtain ⟨T, hT⟩ : ∃ T, T = c' + 0 + Y := ⟨_, rfl⟩
        obtain ⟨d, hd⟩ : ∃ d, d = T % 4294967296 := ⟨_, rfl⟩
        obtain ⟨e, he⟩ : ∃ e, e = T / 4294967296 := ⟨_, rfl⟩
        have q1 : IntKind.u64.wrap ((c' : Int) + (Y : Int)) = (T : Int) := by
          rw [show (c' : Int) + (Y : Int) = (T : Int) by omega]; exact IntWalk.u64_in _ (by omega)
        have hd1 : d < 4294967296 := by omega
        have he1 : e ≤ 1 := by omega
        have q4 : (T : Int) % 4294967296 = (d : Int) := by omega
        have q5 : (T : Int) / 4294967296 = (e : Int) := by omega
        have HDE := hid (show d + 4294967296 * e = c' + 0 + Y by omega)
        have HK1 := hid (show k + 1 ≤ xs.length + ys.length + 1 by omega)
        have HD1 := hid hd1
        have HEB := hid he1
        have hg2 := hg.kept stays_rU32 ((Below.refl _ _).alloc (Nat.le_refl _) (.cells #[.int .u32 (d : Int)] 85))
        have hy : rU32 (wr.alloc (.cells #[.int .u32 (d : Int)] 85)) (Beside (wr.alloc (.cells #[.int .u32 (d : Int)] 85)) u5) [.int .u32 (d : Int)] d := ⟨rfl, hd1⟩
        clear hT hd he hd1 he1 hc'
        go_wp2_with (at_builtin; refine wpList_push _ rfl _ _ 73 rfl stays_rU32 w.heap.size 85 1 4 _ Tryd.underlying73 Tryd.infoU32 rfl (by omega) _ ds rfl hg2 ?hbase ?hbytes ?h63 wr.heap.size 1 [.int .u32 (d : Int)] rfl rfl ?hb rfl d hy ?_)
        case hbase => simp; omega
        case hbytes => rw [HL.out]; omega
        case h63 => rw [HL.out]; omega
        case hb => exact ⟨(0, 0), heap_alloc_new _ _⟩
        intro v' w' hg' hgr hbel'
        have hbel2 : Below w.heap.size w w' := (hbw.alloc hsz _).trans hbel'
        clear hy hg2 hg hbel' hgr
        go_wp2
        clear q1 q4 q5
        go_roundw
        case rel =>
          refine ⟨k + 1, e, ds ++ [d], HK1, by go_num, rfl, HEB.out, hbel2, hg', ?_, ?_, ?_, ?_, .inr (.inr hb)⟩
          · show (ds ++ [d]).length = k + 1; simp [HL.out]
          · intro x hx; rcases List.mem_append.1 hx with h | h
            · exact HD.out x h
            · simp at h; have := HD1.out; omega
          · show limbsVal (ds ++ [d]) + 4294967296 ^ (k + 1) * e = limbsVal (xs.take (k + 1)) + limbsVal (ys.take (k + 1))
            rw [limbsVal_snoc, HL.out, E1.out, E2.out, Nat.pow_succ]
            exact plus_arith HDE.out HV.out
          · exact .inr (Nat.le_trans (HPy.out k hb) (Nat.le_add_left _ _))
        case measure => have := HK1.out; simp [intOf]; omega
      · have ex : xs.getD k 0 = 0 := by simp [List.getD, List.getElem?_eq_none (by omega : xs.length ≤ k)]
        rw [ex] at e1
        clear ex
        have g1 : 0 < 4294967296 := by decide
        have ey : ys.getD k 0 = 0 := by simp [List.getD, List.getElem?_eq_none (by omega : ys.length ≤ k)]
        rw [ey] at e2
        clear ey
        have f1 : 0 < 4294967296 := by decide
        by_cases hc : 0 < c'
        · skip
          have E1 := hid e1
          have E2 := hid e2
          clear e1 e2
          obtain ⟨T, hT⟩ : ∃ T, T = c' + 0 + 0 := ⟨_, rfl⟩
          obtain ⟨d, hd⟩ : ∃ d, d = T % 4294967296 := ⟨_, rfl⟩
          obtain ⟨e, he⟩ : ∃ e, e = T / 4294967296 := ⟨_, rfl⟩
          have hTc : c' = T := by omega
          subst hTc
          have hd1 : d < 4294967296 := by omega
          have he1 : e ≤ 1 := by omega
          have q4 : (c' : Int) % 4294967296 = (d : Int) := by omega
          have q5 : (c' : Int) / 4294967296 = (e : Int) := by omega
          have HDE := hid (show d + 4294967296 * e = c' + 0 + 0 by omega)
          have HP := hid (show 4294967296 ^ k ≤ x + y by
            have h1 := HV.out
            rw [List.take_of_length_le (by omega), List.take_of_length_le (by omega), vx.out, vy.out] at h1
            have := Nat.mul_le_mul_left (4294967296 ^ k) hc
            omega)
          have HE0 := hid (show e = 0 by omega)
          have HK1 := hid (show k + 1 ≤ xs.length + ys.length + 1 by have := HC.out; omega)
          have HD1 := hid hd1
          have HEB := hid he1
          have hg2 := hg.kept stays_rU32 ((Below.refl _ _).alloc (Nat.le_refl _) (.cells #[.int .u32 (d : Int)] 85))
          have hy : rU32 (wr.alloc (.cells #[.int .u32 (d : Int)] 85)) (Beside (wr.alloc (.cells #[.int .u32 (d : Int)] 85)) u5) [.int .u32 (d : Int)] d := ⟨rfl, hd1⟩
          clear hT hd he hd1 he1 hc'
          go_wp2_with (at_builtin; refine wpList_push _ rfl _ _ 73 rfl stays_rU32 w.heap.size 85 1 4 _ Tryd.underlying73 Tryd.infoU32 rfl (by omega) _ ds rfl hg2 ?hbase ?hbytes ?h63 wr.heap.size 1 [.int .u32 (d : Int)] rfl rfl ?hb rfl d hy ?_)
          case hbase => simp; omega
          case hbytes => rw [HL.out]; omega
          case h63 => rw [HL.out]; omega
          case hb => exact ⟨(0, 0), heap_alloc_new _ _⟩
          intro v' w' hg' hgr hbel'
          have hbel2 : Below w.heap.size w w' := (hbw.alloc hsz _).trans hbel'
          clear hy hg2 hg hbel' hgr
          go_wp2
          clear q4 q5
          go_roundw
          case rel =>
            refine ⟨k + 1, e, ds ++ [d], HK1, by go_num, rfl, HEB.out, hbel2, hg', ?_, ?_, ?_, ?_, .inl HE0.out⟩
            · show (ds ++ [d]).length = k + 1; simp [HL.out]
            · intro x hx; rcases List.mem_append.1 hx with h | h
              · exact HD.out x h
              · simp at h; have := HD1.out; omega
            · show limbsVal (ds ++ [d]) + 4294967296 ^ (k + 1) * e = limbsVal (xs.take (k + 1)) + limbsVal (ys.take (k + 1))
              rw [limbsVal_snoc, HL.out, E1.out, E2.out, Nat.pow_succ]
              exact plus_arith HDE.out HV.out
            · exact .inr HP.out
          case measure => have := HK1.out; simp [intOf]; omega
        · have hs : limbsVal ds = x + y := by
            have h1 := HV.out
            have : c' = 0 := by omega
            subst this
            rw [List.take_of_length_le (by omega), List.take_of_length_le (by omega), vx.out, vy.out, Nat.mul_zero] at h1
            exact h1
          have hR := hg.slice stays_rU32
          have hE := limbsOf_eq HL.out HD.out hs HT.out
          rw [← hE] at hR
          have hc0 : c' = 0 := by omega
          subst hc0
          clear hs hg hE
          go_wp2
          go_ret
          exact ⟨_, rfl, hR, hbw⟩

end Go.Proofs.YtgmedcncbpdimaaDoor
