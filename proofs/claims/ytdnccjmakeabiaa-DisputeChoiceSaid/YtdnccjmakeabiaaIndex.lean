/- The reference's Choice; Index of both; SameInts: walked. -/
import Derived.Test.YtdnccjmakeabiaaChoice
import Derived.Test.YtdnccjmakeabiaaGrow
import Derived.Deep.QuietTactic
import Derived.BigQuiet
namespace Go.Proofs.Ytdnccjmakeabiaa
open Go.RowKit

theorem refchoice_no (v : Value) (l : List GDisp) (k : Int) (w : World) (hc : ¬ (0 ≤ k ∧ k < cnt l ∧ cnt l ≤ 4096)) (hv : rSlice 3 rDisp w (LT w.heap.size) [v] l) :
    Calls Try.prog 10 #[v, .int .i64 k] w fun e w' => e = .returned (.tuple #[.slice none 0 0, .bool false]) ∧ Below w.heap.size w w' := by
  by_cases h1 : k < 0
  · go_enter Try.func10, Try.ntmps10
    go_wp2
    go_ret2
    exact ⟨rfl, Below.refl _ _⟩
  · by_cases h2 : cnt l ≤ k
    · go_enter Try.func10, Try.ntmps10
      go_wp2_with fail
      refine (refcount_any _ l _ hv).mono ?_
      rintro e w1 ⟨rfl, rfl⟩
      go_wp2
      go_ret2
      exact ⟨rfl, Below.refl _ _⟩
    · have h3 : 4096 < cnt l := by omega
      go_enter Try.func10, Try.ntmps10
      go_wp2_with fail
      refine (refcount_any _ l _ hv).mono ?_
      rintro e w1 ⟨rfl, rfl⟩
      go_wp2_with fail
      refine (refcount_any _ l _ hv).mono ?_
      rintro e w1 ⟨rfl, rfl⟩
      go_wp2
      go_ret2
      exact ⟨rfl, Below.refl _ _⟩

theorem choice_len (l : List GDisp) (k : Int) : (choice l k).length = l.length := by simp [choice]
theorem choice_get (l : List GDisp) (k : Int) (j : Nat) (h : j < l.length) : (choice l k)[j]'(by rw [choice_len]; exact h) = choRest l k j % (l[j].opts.length : Int) := by simp [choice, h]
theorem choice_ok (l : List GDisp) (k : Int) (h0 : 0 ≤ k) (hk : k ≤ 4097) (j : Nat) (h : j < l.length) : i64ok (choRest l k j % (l[j].opts.length : Int)) := by
  have hb := choRest_bd l k h0 j
  rcases Nat.eq_zero_or_pos l[j].opts.length with hz | hz
  · rw [hz]; simp [i64ok]; omega
  · have h5 := Int.emod_nonneg (choRest l k j) (b := (l[j].opts.length : Int)) (by omega)
    have h6 := Int.mul_ediv_add_emod (choRest l k j) (l[j].opts.length : Int)
    have h7 := Int.mul_nonneg (Int.natCast_nonneg l[j].opts.length) (Int.ediv_nonneg hb.1 (Int.natCast_nonneg l[j].opts.length))
    unfold i64ok
    generalize choRest l k j % (l[j].opts.length : Int) = x at *
    generalize (l[j].opts.length : Int) * (choRest l k j / (l[j].opts.length : Int)) = y at *
    omega

set_option maxRecDepth 100000 in
set_option maxHeartbeats 400000 in
theorem refchoice_yes (v : Value) (l : List GDisp) (k : Int) (w : World) (h0 : 0 ≤ k) (hc : k < cnt l) (hm : cnt l ≤ 4096) (hs : l.length ≤ 1000000) (hv : rSlice 3 rDisp w (LT w.heap.size) [v] l) :
    Calls Try.prog 10 #[v, .int .i64 k] w fun e w' =>
      ∃ u, e = .returned (.tuple #[u, .bool true]) ∧ rSlice 1 rI64 w' (LT w'.heap.size) [u] (choice l k) ∧ Below w.heap.size w w' := by
  have hv' := hv
  obtain ⟨a, cap, hv, h1, h2, _, h4⟩ := hv
  simp only [List.cons.injEq, and_true] at hv
  subst hv
  go_enter Try.func10, Try.ntmps10
  go_wp2_with fail
  refine (refcount_any _ l _ hv').mono ?_
  rintro e w1 ⟨rfl, rfl⟩
  go_wp2_with fail
  refine (refcount_any _ l _ hv').mono ?_
  rintro e w1 ⟨rfl, rfl⟩
  go_wp2
  go_loopw [1, 6, 7] (fun r u i wr => ∃ m : Nat, m ≤ l.length ∧ r = .int .i64 (choRest l k m) ∧ i = .int .i64 m ∧ Below w.heap.size w wr ∧ rGrow 3 1 rI64 w.heap.size wr u ((choice l k).take m)) (fun _ _ i _ => l.length - (intOf i).toNat)
  case atStart => exact ⟨0, Nat.zero_le _, rfl, rfl, Below.refl _ _, rGrow.nil _ _ _ _ _⟩
  case round =>
    obtain ⟨m, hm', rfl, rfl, hbel, hg⟩ := hrel
    by_cases hlt : m < l.length
    · rcases h4 with rfl | ⟨b, off, rfl, h4⟩
      · simp at hlt
      obtain ⟨a', cap', g0, g1, g2, _⟩ := h4.disp hbel hlt
      have hpos : 0 < l[m].opts.length := by
        rcases Nat.eq_zero_or_pos l[m].opts.length with h | h
        · have := cnt_empty l m hlt h; omega
        · exact h
      have hb := choRest_bd l k h0 m
      have hcl := choice_len l k
      have hcl' : ((choice l k).take m).length = m := by simp [hcl]; omega
      have hsz := hbel.size
      have hg2 := hg.kept stays_rI64 ((Below.refl _ _).alloc (Nat.le_refl _) (.cells #[.int .i64 (choRest l k m % (l[m].opts.length : Int))] 3))
      have hy : rI64 (wr.alloc (.cells #[.int .i64 (choRest l k m % (l[m].opts.length : Int))] 3)) (Beside (wr.alloc (.cells #[.int .i64 (choRest l k m % (l[m].opts.length : Int))] 3)) u6) [.int .i64 (choRest l k m % (l[m].opts.length : Int))] (choRest l k m % (l[m].opts.length : Int)) :=
        ⟨rfl, choice_ok l k h0 (by omega) m hlt⟩
      have HL : Hid _ := hcl'
      have HC : Hid _ := hcl
      clear hcl hcl'
      go_wp2_with (at_builtin; refine wpList_push _ rfl _ _ 32 rfl stays_rI64 w.heap.size 3 1 8 _ Try.underlying32 Try.infoInt rfl (by omega) _ ((choice l k).take m) rfl hg2 ?hbase ?hbytes ?h63 wr.heap.size 1 [.int .i64 (choRest l k m % (l[m].opts.length : Int))] rfl rfl ?hb rfl (choRest l k m % (l[m].opts.length : Int)) hy ?_)
      case hbase => simp; omega
      case hbytes => rw [HL.out]; omega
      case h63 => rw [HL.out]; omega
      case hb => exact ⟨(0, 0), heap_alloc_new _ _⟩
      intro v' w' hg' hgr hbel'
      have e : (choice l k).take m ++ [choRest l k m % (l[m].opts.length : Int)] = (choice l k).take (m + 1) := by
        rw [List.take_succ_eq_append_getElem (by rw [HC.out]; exact hlt), choice_get l k m hlt]
      rw [e] at hg'
      have hbel2 : Below w.heap.size w w' := (hbel.alloc hbel.size _).trans hbel'
      have g1' := g1
      obtain ⟨a'', cap'', f0, f1, f2, _⟩ := h4.disp hbel2 hlt
      clear e hy hg2 hg hbel' hgr g0 g1 g2 g1' 
      go_wp2
      go_roundw
      case rel => exact ⟨m + 1, by omega, by rw [choRest_succ l k m hlt], by go_num, hbel2, hg'⟩
      case measure => simp [intOf]; omega
    · have hR := hg.slice stays_rI64
      rw [List.take_of_length_le (by rw [choice_len]; omega)] at hR
      clear hg
      go_wp2
      go_ret2
      exact ⟨_, rfl, hR, hbel⟩

end Go.Proofs.Ytdnccjmakeabiaa
