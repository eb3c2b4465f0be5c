/- fits and Index of the reference: walked. -/
import Derived.Test.YtdnccjmakeabiaaIndex3
namespace Go.Proofs.Ytdnccjmakeabiaa
open Go.RowKit

/-- What fits answers. -/
noncomputable def fitsV (l : List GDisp) (c : List Int) : Int := if c.length = l.length then (if chosB l c then 0 else 41) else 4
theorem ret_int {k : IntKind} {a b : Int} (h : a = b) : Ending.returned (.int k a) = .returned (.int k b) := by rw [h]

set_option maxHeartbeats 400000 in
theorem fits_any (u v : Value) (l : List GDisp) (c : List Int) (w : World) (hu : rSlice 3 rDisp w (LT w.heap.size) [u] l) (hv : rSlice 1 rI64 w (LT w.heap.size) [v] c) :
    Calls Try.prog 19 #[u, v] w fun e w' => e = .returned (.int .i64 (fitsV l c)) ∧ Below w.heap.size w w' := by
  obtain ⟨a', cap', rfl, h1', h2', h4'⟩ := ints_open hv
  obtain ⟨a, cap, hu, h1, h2, _, h4⟩ := hu
  simp only [List.cons.injEq, and_true] at hu
  subst hu
  have hn := len_le h1 h2
  have hn' := len_le h1' h2'
  by_cases hlen : c.length = l.length
  · have HL := hid hlen
    rw [hlen]
    clear hlen
    go_enter Try.func19, Try.ntmps19
    go_wp2
    go_loopw [5] (fun i wr => ∃ k : Nat, k ≤ l.length ∧ i = .int .i64 k ∧ Hid (∀ j (h : j < l.length) (h' : j < c.length), j < k → 0 ≤ c[j] ∧ c[j] < l[j].opts.length) ∧ Below w.heap.size w wr) (fun i _ => l.length - (intOf i).toNat)
    case atStart => exact ⟨0, Nat.zero_le _, rfl, fun j _ _ h => by omega, Below.refl _ _⟩
    case round =>
      obtain ⟨k, hk, rfl, HE, hbel⟩ := hrel
      by_cases hlt : k < l.length
      · have hlt' : k < c.length := by have := HL.out; omega
        rcases h4 with rfl | ⟨b, off, rfl, h4⟩
        · simp at hlt
        rcases h4' with rfl | ⟨b', off', rfl, h4'⟩
        · simp at hlt'
        obtain ⟨x, cp, g0, g1, g2, _⟩ := h4.disp hbel hlt
        obtain ⟨f0, f1⟩ := h4'.i64 hlt'
        rw [← hbel.cell (p := ⟨b', off' + k, none⟩) h4'.1] at f0
        unfold i64ok at f1
        by_cases c1 : c[k] < 0
        · have hno : Hid (fitsV l c = 41) := by
            unfold fitsV
            rw [if_pos HL.out, chosB_no fun h => by have := h.2 k hlt hlt'; omega]; rfl
          have d1 : decide (c[k] < 0) = true := by simpa using c1
          go_wp2
          go_quiet (fail)
          go_wp2
          go_ret
          exact ⟨ret_int hno.out.symm, hbel.drewN _⟩
        · have d1 : decide (c[k] < 0) = false := by simpa using c1
          by_cases c2 : (l[k].opts.length : Int) ≤ c[k]
          · have hno : Hid (fitsV l c = 41) := by
              unfold fitsV
              rw [if_pos HL.out, chosB_no fun h => by have := h.2 k hlt hlt'; omega]; rfl
            go_wp2
            go_quiet (fail)
            go_wp2
            go_ret
            exact ⟨ret_int hno.out.symm, hbel.drewN _⟩
          · have d2 : decide ((l[k].opts.length : Int) ≤ c[k]) = false := by simpa using c2
            go_wp2
            go_quiet (fail)
            go_wp2
            go_roundw
            case rel =>
              refine ⟨k + 1, by omega, by go_num, fun j h h' hj => ?_, hbel.drewN _⟩
              by_cases hjk : j < k
              · exact HE.out j h h' hjk
              · obtain rfl : j = k := by omega
                omega
            case measure => simp [intOf]; omega
      · have hyes : Hid (fitsV l c = 0) := by
          unfold fitsV
          rw [if_pos HL.out, chosB_yes ⟨HL.out, fun j h h' => HE.out j h h' (by omega)⟩]; rfl
        go_wp2
        go_ret
        exact ⟨ret_int hyes.out.symm, hbel⟩
  · have hl' : (c.length != l.length) = true := by simp [hlen]
    have hl2 : ¬ ((c.length : Int) = (l.length : Int)) := by omega
    have hyes : Hid (fitsV l c = 4) := by unfold fitsV; rw [if_neg hlen]; rfl
    clear hlen
    go_enter Try.func19, Try.ntmps19
    go_wp2
    go_ret
    exact ⟨ret_int hyes.out.symm, Below.refl _ _⟩

theorem fits_yes {l : List GDisp} {c : List Int} (h : okc l c) : fitsV l c = 0 := by unfold fitsV; rw [if_pos h.1, chosB_yes h]; rfl
theorem fits_no {l : List GDisp} {c : List Int} (h : ¬ okc l c) : fitsV l c = 4 ∨ fitsV l c = 41 := by
  unfold fitsV
  by_cases hl : c.length = l.length
  · rw [if_pos hl, chosB_no h]; exact .inr rfl
  · rw [if_neg hl]; exact .inl rfl

set_option maxHeartbeats 400000 in
theorem refindex_yes (u v : Value) (l : List GDisp) (c : List Int) (w : World) (ho : okc l c) (hc : cnt l ≤ 4096) (hu : rSlice 3 rDisp w (LT w.heap.size) [u] l) (hv : rSlice 1 rI64 w (LT w.heap.size) [v] c) :
    Calls Try.prog 12 #[u, v] w fun e w' => e = .returned (.tuple #[.int .i64 (idxFrom l c), .bool true]) ∧ Below w.heap.size w w' := by
  have hu' := hu
  have hv' := hv
  have hch := fits_any u v l c w hu hv
  rw [fits_yes ho] at hch
  obtain ⟨a', cap', ev, h1', h2', h4'⟩ := ints_open hv
  rw [ho.1] at ev
  subst ev
  obtain ⟨a, cap, hu, h1, h2, _, h4⟩ := hu
  simp only [List.cons.injEq, and_true] at hu
  subst hu
  have hn := len_le h1 h2
  have HO := hid ho
  have HC := hid hch
  clear ho hch
  go_enter Try.func12, Try.ntmps12
  go_wp2_with fail
  refine Calls.mono HC.out ?_
  rintro e w1 ⟨rfl, hb0⟩
  go_wp2_with fail
  refine (refcount_any _ l w1 ((stays_rSlice stays_rDisp).below hu' hb0 hb0.size)).mono ?_
  rintro e w2 ⟨rfl, rfl⟩
  go_wp2
  go_loopw [6, 7] (fun r i wr => ∃ m : Nat, m ≤ l.length ∧ r = .int .i64 (idxFrom (l.drop m) (c.drop m)) ∧ i = .int .i64 ((m : Int) - 1) ∧ Below w.heap.size w wr) (fun _ i _ => (intOf i + 1).toNat)
  case atStart => exact ⟨l.length, Nat.le_refl _, by simp [idxFrom], rfl, hb0⟩
  case round =>
    obtain ⟨m, hm, rfl, rfl, hbel⟩ := hrel
    cases m with
    | zero =>
      go_wp2
      go_ret2
      exact ⟨by simp, hbel⟩
    | succ m =>
      have hlt : m < l.length := by omega
      have hlt' : m < c.length := by have := HO.out.1; omega
      rw [show (((m + 1 : Nat) : Int) - 1) = (m : Int) by omega]
      rcases h4 with rfl | ⟨b, off, rfl, h4⟩
      · simp at hlt
      rcases h4' with rfl | ⟨b', off', rfl, h4'⟩
      · simp at hlt'
      obtain ⟨x, cp, g0, g1, g2, _⟩ := h4.disp hbel hlt
      obtain ⟨f0, f1⟩ := h4'.i64 hlt'
      rw [← hbel.cell (p := ⟨b', off' + m, none⟩) h4'.1] at f0
      have q1 := idx_drop_bd HO.out hc (m + 1)
      have q2 := idx_drop_bd HO.out hc m
      have q3 := idx_step m hlt hlt'
      have q4 := HO.out.2 m hlt hlt'
      have q5 : 0 ≤ idxFrom (l.drop (m + 1)) (c.drop (m + 1)) * (l[m].opts.length : Int) := Int.mul_nonneg q1.1 (by omega)
      have Q3 := hid q3
      have q6 : idxFrom (l.drop (m + 1)) (c.drop (m + 1)) * (l[m].opts.length : Int) ≤ 4095 := by omega
      have q7 : idxFrom (l.drop (m + 1)) (c.drop (m + 1)) * (l[m].opts.length : Int) + c[m] ≤ 4095 := by omega
      have q8 : 0 ≤ idxFrom (l.drop (m + 1)) (c.drop (m + 1)) * (l[m].opts.length : Int) + c[m] := by omega
      have q9 : m < 9223372036854775807 := by omega
      clear q3 q2
      have k1 : IntKind.i64.wrap (idxFrom (l.drop (m + 1)) (c.drop (m + 1)) * (l[m].opts.length : Int)) = idxFrom (l.drop (m + 1)) (c.drop (m + 1)) * (l[m].opts.length : Int) := IntWalk.i64_in _ (by omega)
      have k2 : IntKind.i64.wrap (idxFrom (l.drop (m + 1)) (c.drop (m + 1)) * (l[m].opts.length : Int) + c[m]) = idxFrom (l.drop (m + 1)) (c.drop (m + 1)) * (l[m].opts.length : Int) + c[m] := IntWalk.i64_in _ (by omega)
      go_wp2
      go_quiet (fail)
      clear k1 k2
      go_wp2
      go_roundw
      case rel => exact ⟨m, by omega, by rw [Q3.out], rfl, hbel.drewN _⟩
      case measure => simp [intOf]

theorem refindex_no (u v : Value) (l : List GDisp) (c : List Int) (w : World) (ho : ¬ (okc l c ∧ cnt l ≤ 4096)) (hu : rSlice 3 rDisp w (LT w.heap.size) [u] l) (hv : rSlice 1 rI64 w (LT w.heap.size) [v] c) :
    Calls Try.prog 12 #[u, v] w fun e w' => e = .returned (.tuple #[.int .i64 0, .bool false]) ∧ Below w.heap.size w w' := by
  have hch := fits_any u v l c w hu hv
  by_cases hok : okc l c
  · have h3 : 4096 < cnt l := by
      rcases Int.lt_or_le 4096 (cnt l) with h | h
      · exact h
      · exact absurd ⟨hok, h⟩ ho
    rw [fits_yes hok] at hch
    have HC := hid hch
    clear hch ho hok
    go_enter Try.func12, Try.ntmps12
    go_wp2_with fail
    refine Calls.mono HC.out ?_
    rintro e w1 ⟨rfl, hb0⟩
    go_wp2_with fail
    refine (refcount_any _ l w1 ((stays_rSlice stays_rDisp).below hu hb0 hb0.size)).mono ?_
    rintro e w2 ⟨rfl, rfl⟩
    go_wp2
    go_ret2
    exact ⟨rfl, hb0⟩
  · rcases fits_no hok with h | h
    all_goals
      rw [h] at hch
      have HC := hid hch
      clear hch ho hok h
      go_enter Try.func12, Try.ntmps12
      go_wp2_with fail
      refine Calls.mono HC.out ?_
      rintro e w1 ⟨rfl, hb0⟩
      go_wp2
      go_ret2
      exact ⟨rfl, hb0⟩

end Go.Proofs.Ytdnccjmakeabiaa
