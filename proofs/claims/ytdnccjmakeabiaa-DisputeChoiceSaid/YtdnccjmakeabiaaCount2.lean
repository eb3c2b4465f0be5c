/- The reference's Count, walked: it returns cnt too. -/
import Derived.Test.YtdnccjmakeabiaaCount
namespace Go.Proofs.Ytdnccjmakeabiaa
open Go.RowKit

theorem cntStep_zero (k : Nat) : cntStep 0 k = 0 := by unfold cntStep cap4097; simp
theorem cnt_zero_aux (l : List GDisp) : l.foldl (fun n d => cntStep n d.opts.length) 0 = 0 := by
  induction l with
  | nil => rfl
  | cons d r ih => rw [List.foldl_cons, cntStep_zero]; exact ih
/-- An empty dispute: no outcome. -/
theorem cnt_empty (l : List GDisp) (k : Nat) (h : k < l.length) (h0 : l[k].opts.length = 0) : cnt l = 0 := by
  have e : l = l.take k ++ l[k] :: l.drop (k + 1) := by rw [← List.drop_eq_getElem_cons h, List.take_append_drop]
  unfold cnt
  rw [e, List.foldl_append, List.foldl_cons, h0]
  have : ∀ n, cntStep n 0 = 0 := fun n => by unfold cntStep cap4097; simp
  rw [this, cnt_zero_aux]

set_option maxHeartbeats 400000 in
theorem refcount_any (v : Value) (l : List GDisp) (w : World) (hv : rSlice 3 rDisp w (LT w.heap.size) [v] l) :
    Calls Try.prog 8 #[v] w fun e w' => e = .returned (.int .i64 (cnt l)) ∧ w = w' := by
  obtain ⟨a, cap, hv, h1, h2, _, h4⟩ := hv
  simp only [List.cons.injEq, and_true] at hv
  subst hv
  have hn := len_le h1 h2
  go_enter Try.func8, Try.ntmps8
  go_wp2
  go_loop [3] (fun i => ∃ k : Nat, k ≤ l.length ∧ i = .int .i64 k) (fun i => l.length - (intOf i).toNat)
  case atStart => exact ⟨0, Nat.zero_le _, rfl⟩
  case round =>
    obtain ⟨k, hk, rfl⟩ := hrel
    by_cases hlt : k < l.length
    · rcases h4 with rfl | ⟨b, off, rfl, h4⟩
      · simp at hlt
      obtain ⟨a', cap', g0, g1, g2, _⟩ := h4.disp (Below.refl _ _) hlt
      by_cases hz : l[k].opts.length = 0
      · have hz' : ((l[k].opts.length : Int) == 0) = true := by simp [hz]
        have hc := cnt_empty l k hlt hz
        clear hz
        go_wp2
        go_ret
        exact ⟨rfl, rfl⟩
      · have hz' : ((l[k].opts.length : Int) == 0) = false := by simpa using hz
        go_wp2
        go_round
        case rel => exact ⟨k + 1, by omega, by go_num⟩
        case measure => simp [intOf]; omega
    · go_wp2
      go_loop [4, 5] (fun n i => ∃ k : Nat, k ≤ l.length ∧ n = .int .i64 (cnt (l.take k)) ∧ i = .int .i64 k) (fun _ i => l.length - (intOf i).toNat)
      case atStart => exact ⟨0, Nat.zero_le _, rfl, rfl⟩
      case round =>
        obtain ⟨m, hm, rfl, rfl⟩ := hrel
        by_cases hlt : m < l.length
        · rcases h4 with rfl | ⟨b, off, rfl, h4⟩
          · simp at hlt
          obtain ⟨a', cap', g0, g1, g2, _⟩ := h4.disp (Below.refl _ _) hlt
          go_wp2
          go_round
          case rel => exact ⟨m + 1, by omega, cnt_val l m hlt, by go_num⟩
          case measure => simp [intOf]; omega
        · go_wp2
          go_ret
          exact ⟨by rw [List.take_of_length_le (by omega)]; rfl, rfl⟩
end Go.Proofs.Ytdnccjmakeabiaa
