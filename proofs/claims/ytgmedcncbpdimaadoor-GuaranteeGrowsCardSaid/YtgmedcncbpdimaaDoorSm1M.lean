/- rational: den, signOf, negate, magnitude: walked. -/
import Derived.Test.YtgmedcncbpdimaaDoorVal3M
set_option linter.unusedVariables false
set_option linter.unusedSimpArgs false
/- rational: den, signOf, negate, magnitude: walked. -/
namespace Go.Proofs.YtgmedcncbpdimaaDoor
open Go.RowKit

theorem qden_enc (q : Rat) (w : World) : Calls Tryd.prog 49 #[vRat (enc q)] w fun e w' => e = .returned (.string (natStr q.den)) ∧ Below w.heap.size w w' := by
  by_cases h : q.den = 1
  · have e1 : (enc q).den = { data := #[] } := by unfold enc; simp only [h, if_true]; rfl
    rw [h, natStr_one]
    unfold vRat
    rw [e1]
    generalize enc q = a at *
    clear h e1
    go_enter Tryd.func49, Tryd.ntmps49
    go_wp2
    go_ret
    exact ⟨rfl, (Below.refl _ _).alloc (Nat.le_refl _) _⟩
  · have e1 : (enc q).den = natStr q.den := by unfold enc; simp only [h, if_false]
    have hne := num_ne (natStr_ne q.den_nz)
    unfold vRat
    rw [e1]
    generalize natStr q.den = d at *
    generalize enc q = a at *
    clear h e1
    go_enter Tryd.func49, Tryd.ntmps49
    go_wp2
    go_ret
    exact ⟨rfl, (Below.refl _ _).alloc (Nat.le_refl _) _⟩

theorem qsignOf_any (r : GRat) (w : World) : Calls Tryd.prog 37 #[vRat r] w fun e w' => e = .returned (.int .i64 (sgnZ r)) ∧ Below w.heap.size w w' := by
  unfold vRat
  by_cases h : r.num.size = 0
  · have hz : r.num = { data := #[] } := ByteArray.ext (Array.eq_empty_of_size_eq_zero h)
    have hR := hid (show sgnZ r = 0 by unfold sgnZ; rw [if_pos h])
    rw [hz]
    clear h hz
    go_enter Tryd.func37, Tryd.ntmps37
    go_wp2
    go_ret
    exact ⟨ret_int hR.out.symm, (Below.refl _ _).alloc (Nat.le_refl _) _⟩
  · have hz := num_ne h
    cases hn : r.neg with
    | true =>
      have hR := hid (show sgnZ r = -1 by unfold sgnZ; rw [if_neg h, if_pos hn])
      clear h hn
      go_enter Tryd.func37, Tryd.ntmps37
      go_wp2
      go_ret
      exact ⟨ret_int hR.out.symm, (Below.refl _ _).alloc (Nat.le_refl _) _⟩
    | false =>
      have hR := hid (show sgnZ r = 1 by unfold sgnZ; rw [if_neg h, if_neg (by rw [hn]; decide)])
      clear h hn
      go_enter Tryd.func37, Tryd.ntmps37
      go_wp2
      go_ret
      exact ⟨ret_int hR.out.symm, (Below.refl _ _).alloc (Nat.le_refl _) _⟩

theorem qnegate_any (r : GRat) (w : World) (hv : r.num.size = 0 → r.neg = false) : Calls Tryd.prog 61 #[vRat r] w fun e w' => e = .returned (vRat (gOpp r)) ∧ Below w.heap.size w w' := by
  by_cases h : r.num.size = 0
  · have hz : r.num = { data := #[] } := ByteArray.ext (Array.eq_empty_of_size_eq_zero h)
    have hn := hv h
    have hR := hid (show gOpp r = r by unfold gOpp; rw [if_pos h])
    rw [hR.out]
    unfold vRat
    rw [hz, hn]
    clear h hz hn hv
    go_enter Tryd.func61, Tryd.ntmps61
    go_wp2
    go_returns
    exact ⟨rfl, ((Below.refl _ _).alloc (Nat.le_refl _) _).alloc (by simp) _⟩
  · have hz := num_ne h
    have hR := hid (show gOpp r = ⟨!r.neg, r.num, r.den⟩ by unfold gOpp; rw [if_neg h])
    rw [hR.out]
    unfold vRat
    clear h hv
    cases hn : r.neg
    · clear hn
      go_enter Tryd.func61, Tryd.ntmps61
      go_wp2
      go_returns
      exact ⟨rfl, ((Below.refl _ _).alloc (Nat.le_refl _) _).alloc (by simp) _⟩
    · clear hn
      go_enter Tryd.func61, Tryd.ntmps61
      go_wp2
      go_returns
      exact ⟨rfl, ((Below.refl _ _).alloc (Nat.le_refl _) _).alloc (by simp) _⟩

theorem qmagnitude_any (n : Int) (w : World) (h0 : -9223372036854775808 ≤ n) (h1 : n ≤ 9223372036854775807) : Calls Tryd.prog 63 #[.int .i64 n] w fun e w' => e = .returned (.string (natStr n.natAbs)) ∧ Below w.heap.size w w' := by
  have F := hid (fun w => fromUint_any n.natAbs w (by omega))
  by_cases h : n < 0
  · have e1 : IntKind.u64.wrap (-(IntKind.u64.wrap n)) = (n.natAbs : Int) := by rw [IntKind.wrap_u64, IntKind.wrap_u64]; omega
    go_enter Tryd.func63, Tryd.ntmps63
    go_wp2_with fail
    refine Calls.mono (F.out _) ?_
    rintro e w1 ⟨rfl, hb1⟩
    go_wp2
    go_ret
    exact ⟨rfl, hb1⟩
  · have e1 : n = (n.natAbs : Int) := by omega
    have F2 := hid (fun w => F.out w)
    rw [← e1] at F2
    clear F e1
    go_enter Tryd.func63, Tryd.ntmps63
    go_wp2_with fail
    refine Calls.mono (F2.out _) ?_
    rintro e w1 ⟨rfl, hb1⟩
    go_wp2
    go_ret
    exact ⟨rfl, hb1⟩

end Go.Proofs.YtgmedcncbpdimaaDoor
