/- dispute.Choice, walked. -/
import Derived.Test.YtdnccjmakeabiaaCount2
namespace Go.Proofs.Ytdnccjmakeabiaa
open Go.RowKit

theorem Try.infoInt : (Try.prog.info? 3).map (fun i => (i.zero, i.size, i.bytes)) = some (some (.int .i64 0), 1, 8) := by kernel_rfl

/-- What is left of k behind i disputes. -/
def choRest (l : List GDisp) (k : Int) : Nat → Int
  | 0 => k
  | i + 1 => choRest l k i / (l[i]?.map fun d => (d.opts.length : Int)).getD 1
def choice (l : List GDisp) (k : Int) : List Int := (List.range l.length).map fun i => choRest l k i % (l[i]?.map fun d => (d.opts.length : Int)).getD 1

theorem choRest_succ (l : List GDisp) (k : Int) (i : Nat) (h : i < l.length) : choRest l k (i + 1) = choRest l k i / (l[i].opts.length : Int) := by
  simp [choRest, h]
theorem choRest_bd (l : List GDisp) (k : Int) (h : 0 ≤ k) (i : Nat) : 0 ≤ choRest l k i ∧ choRest l k i ≤ k := by
  induction i with
  | zero => exact ⟨h, Int.le_refl _⟩
  | succ i ih =>
    unfold choRest
    generalize hm : (l[i]?.map fun d => (d.opts.length : Int)).getD 1 = m
    have hm0 : 0 ≤ m := by
      rw [← hm]
      cases l[i]? with
      | none => simp
      | some d => simp
    refine ⟨Int.ediv_nonneg ih.1 hm0, Int.le_trans (Int.ediv_le_self _ ih.1) ih.2⟩

theorem choice_no (v : Value) (l : List GDisp) (k : Int) (w : World) (hc : ¬ (0 ≤ k ∧ k < cnt l ∧ cnt l ≤ 4096)) (hv : rSlice 3 rDisp w (LT w.heap.size) [v] l) :
    Calls Try.prog 9 #[v, .int .i64 k] w fun e w' => e = .returned (.tuple #[.slice none 0 0, .bool false]) ∧ Below w.heap.size w w' := by
  have hd : (decide (k < 0) || decide (cnt l ≤ k) || decide (4096 < cnt l)) = true := by simp; omega
  by_cases h1 : k < 0
  · go_enter Try.func9, Try.ntmps9
    go_wp2_with fail
    refine (count_any _ l _ hv).mono ?_
    rintro e w1 ⟨rfl, hb1⟩
    go_wp2
    go_ret2
    exact ⟨rfl, hb1⟩
  · by_cases h2 : cnt l ≤ k
    · go_enter Try.func9, Try.ntmps9
      go_wp2_with fail
      refine (count_any _ l _ hv).mono ?_
      rintro e w1 ⟨rfl, hb1⟩
      go_wp2
      go_ret2
      exact ⟨rfl, hb1⟩
    · have h3 : 4096 < cnt l := by omega
      go_enter Try.func9, Try.ntmps9
      go_wp2_with fail
      refine (count_any _ l _ hv).mono ?_
      rintro e w1 ⟨rfl, hb1⟩
      go_wp2
      go_ret2
      exact ⟨rfl, hb1⟩

set_option maxHeartbeats 400000 in
theorem choice_yes (v : Value) (l : List GDisp) (k : Int) (w : World) (h0 : 0 ≤ k) (hc : k < cnt l) (hm : cnt l ≤ 4096) (hs : l.length ≤ 1000000) (hv : rSlice 3 rDisp w (LT w.heap.size) [v] l) :
    Calls Try.prog 9 #[v, .int .i64 k] w fun e w' =>
      ∃ u, e = .returned (.tuple #[u, .bool true]) ∧ rSlice 1 rI64 w' (LT w'.heap.size) [u] (choice l k) ∧ Below w.heap.size w w' := by
  have hv' := hv
  obtain ⟨a, cap, hv, h1, h2, _, h4⟩ := hv
  simp only [List.cons.injEq, and_true] at hv
  subst hv
  have hmk := fun (w : World) => make_one (P := Try.prog) Try.underlying32 Try.infoInt rfl w l.length (by omega) (by omega)
  go_enter Try.func9, Try.ntmps9
  go_wp2_with fail
  refine (count_any _ l _ hv').mono ?_
  rintro e w1 ⟨rfl, hb1⟩
  go_wp2
  go_loopw [1, 8, 9, 28] (fun r _ _ i wr => ∃ (m : Nat) (f : Nat → Value), m ≤ l.length ∧ r = .int .i64 (choRest l k m) ∧ i = .int .i64 m ∧ Below w.heap.size w wr ∧ w1.heap.size < wr.heap.size ∧
     Own wr w1.heap.size 3 l.length f ∧ (∀ j, j < m → f j = .int .i64 (choRest l k j % (l[j]?.map fun d => (d.opts.length : Int)).getD 1)) ∧ (∀ j, m ≤ j → f j = .int .i64 0)) (fun _ _ _ i _ => l.length - (intOf i).toNat)
  case atStart => exact ⟨0, _, Nat.zero_le _, rfl, rfl, hb1.alloc hb1.size _, by simp, Own.new _ _ _ _, fun j hj => by omega, fun j hj => rfl⟩
  case round =>
    obtain ⟨m, f, hm', rfl, rfl, hbel, hsz, hown, hf1, hf2⟩ := hrel
    by_cases hlt : m < l.length
    · rcases h4 with rfl | ⟨b, off, rfl, h4⟩
      · simp at hlt
      obtain ⟨a', cap', g0, g1, g2, _⟩ := h4.disp hbel hlt
      have hpos : 0 < l[m].opts.length := by
        rcases Nat.eq_zero_or_pos l[m].opts.length with h | h
        · have := cnt_empty l m hlt h; omega
        · exact h
      have hb := choRest_bd l k h0 m
      have c1 := hown.cell hlt
      rw [hf2 m (Nat.le_refl _)] at c1
      have c2 := hown.frozen m
      go_wp2
      go_roundw
      case rel =>
        refine ⟨m + 1, upd f m (.int .i64 (choRest l k m % (l[m].opts.length : Int))), by omega, by rw [choRest_succ l k m hlt], by go_num, (hbel.setCell (by simpa using hb1.size) _).alloc (by simpa using hbel.size) _, by simp; omega, (hown.set _ _).alloc _, ?_, ?_⟩
        · intro j hj
          unfold upd
          split
          · rename_i e; subst e; simp [hlt]
          · exact hf1 j (by omega)
        · intro j hj
          unfold upd
          rw [if_neg (by omega)]
          exact hf2 j (by omega)
      case measure => simp [intOf]; omega
    · go_wp2
      go_ret2
      refine ⟨_, rfl, hown.reads (by simp [choice]) (by omega) ?_, hbel⟩
      intro j hj
      have hj' : j < l.length := by simpa [choice] using hj
      rw [hf1 j (by omega)]
      refine ⟨by simp [choice], ?_⟩
      have hb := choRest_bd l k h0 j
      have hk1 := (cnt_bd l).2
      have hj1 : (choice l k)[j] = choRest l k j % (l[j].opts.length : Int) := by simp [choice, hj']
      rw [hj1]
      have := Int.emod_nonneg (choRest l k j) (b := (l[j].opts.length : Int))
      rcases Nat.eq_zero_or_pos l[j].opts.length with hz | hz
      · rw [hz]; simp [i64ok]; omega
      · have h5 := Int.emod_nonneg (choRest l k j) (b := (l[j].opts.length : Int)) (by omega)
        have h6 := Int.mul_ediv_add_emod (choRest l k j) (l[j].opts.length : Int)
        have h7 := Int.mul_nonneg (Int.natCast_nonneg l[j].opts.length) (Int.ediv_nonneg hb.1 (Int.natCast_nonneg l[j].opts.length))
        unfold i64ok
        generalize choRest l k j % (l[j].opts.length : Int) = x at *
        generalize (l[j].opts.length : Int) * (choRest l k j / (l[j].opts.length : Int)) = y at *
        omega
end Go.Proofs.Ytdnccjmakeabiaa
