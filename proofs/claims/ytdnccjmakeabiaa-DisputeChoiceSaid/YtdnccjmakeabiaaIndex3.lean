/- chooses, fits and Index of both: walked. -/
import Derived.Test.YtdnccjmakeabiaaIndex2
namespace Go.Proofs.Ytdnccjmakeabiaa
open Go.RowKit

/-- What chooses answers. -/
noncomputable def chosB (l : List GDisp) (c : List Int) : Bool := @decide (okc l c) (Classical.propDecidable _)
theorem chosB_yes {l : List GDisp} {c : List Int} (h : okc l c) : chosB l c = true := by unfold chosB; simp [h]
theorem chosB_no {l : List GDisp} {c : List Int} (h : ¬ okc l c) : chosB l c = false := by unfold chosB; simp [h]

set_option maxHeartbeats 400000 in
theorem chooses_any (u v : Value) (l : List GDisp) (c : List Int) (w : World) (hlen : c.length = l.length) (hu : rSlice 3 rDisp w (LT w.heap.size) [u] l) (hv : rSlice 1 rI64 w (LT w.heap.size) [v] c) :
    Calls Try.prog 18 #[u, v] w fun e w' => e = .returned (.bool (chosB l c)) ∧ w = w' := by
  obtain ⟨a', cap', rfl, h1', h2', h4'⟩ := ints_open hv
  obtain ⟨a, cap, hu, h1, h2, _, h4⟩ := hu
  simp only [List.cons.injEq, and_true] at hu
  subst hu
  have hn := len_le h1 h2
  have hn' := len_le h1' h2'
  have HL : Hid _ := hlen
  clear hlen
  go_enter Try.func18, Try.ntmps18
  go_wp2
  go_loop [5, 6, 9] (fun _ _ i => ∃ k : Nat, k ≤ c.length ∧ i = .int .i64 k ∧ Hid (∀ j (h : j < l.length) (h' : j < c.length), j < k → 0 ≤ c[j] ∧ c[j] < l[j].opts.length)) (fun _ _ i => c.length - (intOf i).toNat)
  case atStart => exact ⟨0, Nat.zero_le _, rfl, fun j _ _ h => by omega⟩
  case round =>
    obtain ⟨k, hk, rfl, HE⟩ := hrel
    by_cases hlt' : k < c.length
    · have hlt : k < l.length := by have := HL.out; omega
      rcases h4 with rfl | ⟨b, off, rfl, h4⟩
      · simp at hlt
      rcases h4' with rfl | ⟨b', off', rfl, h4'⟩
      · simp at hlt'
      obtain ⟨x, cp, g0, g1, g2, _⟩ := h4.disp (Below.refl _ _) hlt
      obtain ⟨f0, f1⟩ := h4'.i64 hlt'
      unfold i64ok at f1
      by_cases c1 : c[k] < 0
      · have hno : Hid (chosB l c = false) := chosB_no fun h => by have := h.2 k hlt hlt'; omega
        go_wp2
        go_ret
        exact ⟨ret_bool hno.out.symm, rfl⟩
      · by_cases c2 : (l[k].opts.length : Int) ≤ c[k]
        · have hno : Hid (chosB l c = false) := chosB_no fun h => by have := h.2 k hlt hlt'; omega
          go_wp2
          go_ret
          exact ⟨ret_bool hno.out.symm, rfl⟩
        · go_wp2
          go_round
          case rel =>
            refine ⟨k + 1, by omega, by go_num, fun j h h' hj => ?_⟩
            by_cases hjk : j < k
            · exact HE.out j h h' hjk
            · obtain rfl : j = k := by omega
              omega
          case measure => simp [intOf]; omega
    · have hyes : Hid (chosB l c = true) := chosB_yes ⟨HL.out, fun j h h' => HE.out j h h' (by omega)⟩
      go_wp2
      go_ret
      exact ⟨ret_bool hyes.out.symm, rfl⟩

theorem ret2 {k : IntKind} {a b : Int} {x y : Bool} (h : a = b) (h' : x = y) : Ending.returned (.tuple #[.int k a, .bool x]) = .returned (.tuple #[.int k b, .bool y]) := by rw [h, h']

set_option maxHeartbeats 400000 in
theorem index_yes (u v : Value) (l : List GDisp) (c : List Int) (w : World) (ho : okc l c) (hc : cnt l ≤ 4096) (hu : rSlice 3 rDisp w (LT w.heap.size) [u] l) (hv : rSlice 1 rI64 w (LT w.heap.size) [v] c) :
    Calls Try.prog 11 #[u, v] w fun e w' => e = .returned (.tuple #[.int .i64 (idxFrom l c), .bool true]) ∧ Below w.heap.size w w' := by
  have hu' := hu
  have hv' := hv
  have hch := chooses_any u v l c w ho.1 hu hv
  rw [chosB_yes ho] at hch
  have hct := count_any u l w hu
  obtain ⟨a', cap', ev, h1', h2', h4'⟩ := ints_open hv
  rw [ho.1] at ev
  subst ev
  obtain ⟨a, cap, hu, h1, h2, _, h4⟩ := hu
  simp only [List.cons.injEq, and_true] at hu
  subst hu
  have hn := len_le h1 h2
  have HO := hid ho
  have HC := hid hch
  have HT := hid hct
  clear ho hch hct
  go_enter Try.func11, Try.ntmps11
  go_wp2_with fail
  refine Calls.mono HC.out ?_
  rintro e w1 ⟨rfl, rfl⟩
  go_wp2_with fail
  refine Calls.mono HT.out ?_
  rintro e w1 ⟨rfl, hb1⟩
  go_wp2
  go_loopw [6, 7] (fun r i wr => ∃ m : Nat, m ≤ l.length ∧ r = .int .i64 (idxFrom (l.drop m) (c.drop m)) ∧ i = .int .i64 ((m : Int) - 1) ∧ Below w.heap.size w wr) (fun _ i _ => (intOf i + 1).toNat)
  case atStart => exact ⟨l.length, Nat.le_refl _, by simp [idxFrom], rfl, hb1⟩
  case round =>
    obtain ⟨m, hm, rfl, rfl, hbel⟩ := hrel
    cases m with
    | zero =>
      go_wp2
      go_ret2
      exact ⟨by simp, hbel⟩
    | succ m =>
      have hlt : m < l.length := by omega
      have hlt' : m < c.length := by have := HO.out.1; omega
      rw [show (((m + 1 : Nat) : Int) - 1) = (m : Int) by omega]
      rcases h4 with rfl | ⟨b, off, rfl, h4⟩
      · simp at hlt
      rcases h4' with rfl | ⟨b', off', rfl, h4'⟩
      · simp at hlt'
      obtain ⟨x, cp, g0, g1, g2, _⟩ := h4.disp hbel hlt
      obtain ⟨f0, f1⟩ := h4'.i64 hlt'
      rw [← hbel.cell (p := ⟨b', off' + m, none⟩) h4'.1] at f0
      have q1 := idx_drop_bd HO.out hc (m + 1)
      have q2 := idx_drop_bd HO.out hc m
      have q3 := idx_step m hlt hlt'
      have q4 := HO.out.2 m hlt hlt'
      have q5 : 0 ≤ idxFrom (l.drop (m + 1)) (c.drop (m + 1)) * (l[m].opts.length : Int) := Int.mul_nonneg q1.1 (by omega)
      have Q3 : Hid _ := q3
      have q6 : idxFrom (l.drop (m + 1)) (c.drop (m + 1)) * (l[m].opts.length : Int) ≤ 4095 := by omega
      have q7 : idxFrom (l.drop (m + 1)) (c.drop (m + 1)) * (l[m].opts.length : Int) + c[m] ≤ 4095 := by omega
      have q8 : 0 ≤ idxFrom (l.drop (m + 1)) (c.drop (m + 1)) * (l[m].opts.length : Int) + c[m] := by omega
      have q9 : m < 9223372036854775807 := by omega
      clear q3 q2
      have k1 : IntKind.i64.wrap (idxFrom (l.drop (m + 1)) (c.drop (m + 1)) * (l[m].opts.length : Int)) = idxFrom (l.drop (m + 1)) (c.drop (m + 1)) * (l[m].opts.length : Int) := IntWalk.i64_in _ (by omega)
      have k2 : IntKind.i64.wrap (idxFrom (l.drop (m + 1)) (c.drop (m + 1)) * (l[m].opts.length : Int) + c[m]) = idxFrom (l.drop (m + 1)) (c.drop (m + 1)) * (l[m].opts.length : Int) + c[m] := IntWalk.i64_in _ (by omega)
      go_wp2
      go_quiet (fail)
      clear k1 k2
      go_wp2
      go_roundw
      case rel => exact ⟨m, by omega, by rw [Q3.out], rfl, hbel.drewN _⟩
      case measure => simp [intOf]

theorem index_no (u v : Value) (l : List GDisp) (c : List Int) (w : World) (ho : ¬ (okc l c ∧ cnt l ≤ 4096)) (hu : rSlice 3 rDisp w (LT w.heap.size) [u] l) (hv : rSlice 1 rI64 w (LT w.heap.size) [v] c) :
    Calls Try.prog 11 #[u, v] w fun e w' => e = .returned (.tuple #[.int .i64 0, .bool false]) ∧ Below w.heap.size w w' := by
  have hch := chooses_any u v l c w
  have hct := count_any u l w hu
  have hu' := hu
  have hv' := hv
  obtain ⟨a', cap', rfl, h1', h2', h4'⟩ := ints_open hv
  obtain ⟨a, cap, hu, h1, h2, _, h4⟩ := hu
  simp only [List.cons.injEq, and_true] at hu
  subst hu
  have hn := len_le h1 h2
  have hn' := len_le h1' h2'
  by_cases hl : c.length = l.length
  · have hch := hch hl hu' hv'
    rw [hl]
    rw [hl] at hch
    by_cases hok : okc l c
    · have h3 : 4096 < cnt l := by
        rcases Int.lt_or_le 4096 (cnt l) with h | h
        · exact h
        · exact absurd ⟨hok, h⟩ ho
      rw [chosB_yes hok] at hch
      have HC := hid hch
      have HT := hid hct
      clear hch hct ho hok hl
      go_enter Try.func11, Try.ntmps11
      go_wp2_with fail
      refine Calls.mono HC.out ?_
      rintro e w1 ⟨rfl, rfl⟩
      go_wp2_with fail
      refine Calls.mono HT.out ?_
      rintro e w1 ⟨rfl, hb1⟩
      go_wp2
      go_ret2
      exact ⟨rfl, hb1⟩
    · rw [chosB_no hok] at hch
      have HC := hid hch
      clear hch hct ho hok hl
      go_enter Try.func11, Try.ntmps11
      go_wp2_with fail
      refine Calls.mono HC.out ?_
      rintro e w1 ⟨rfl, rfl⟩
      go_wp2
      go_ret2
      exact ⟨rfl, Below.refl _ _⟩
  · have hl' : (c.length != l.length) = true := by simp [hl]
    have hl2 : ¬ ((c.length : Int) = (l.length : Int)) := by omega
    clear hch hct ho
    go_enter Try.func11, Try.ntmps11
    go_wp2
    go_ret2
    exact ⟨rfl, Below.refl _ _⟩

end Go.Proofs.Ytdnccjmakeabiaa
