/- rational: Valid: walked. -/
import Derived.Test.YtgmedcncbpdimaaDoorRat9M
import Derived.Deep.QuietTactic
import Derived.BigQuiet
set_option linter.unusedVariables false
set_option linter.unusedSimpArgs false
/- rational: Valid: walked. -/
namespace Go.Proofs.YtgmedcncbpdimaaDoor
open Go.RowKit

theorem natStr_one : natStr 1 = { data := #[1] } := by
  unfold natStr; rw [natBytes_pos (by decide)]; simp [natBytes_zero]
theorem str_ne {s t : ByteArray} (h : s ≠ t) : (s.toList == t.toList) = false := by
  rw [beq_eq_false_iff_ne]
  intro e
  rw [ByteArray.toList_eq, ByteArray.toList_eq] at e
  exact h (ByteArray.ext (Array.ext' e))
theorem str_ne1 {s : ByteArray} (h : s ≠ { data := #[1] }) : (s.toList == [1]) = false := by
  rw [beq_eq_false_iff_ne]
  intro e
  rw [ByteArray.toList_eq] at e
  exact h (ByteArray.ext (Array.ext' e))

theorem gValid_1 {r : GRat} (c1 : natStr (strVal r.num) ≠ r.num) : gValid r = false := by simp [gValid, c1]
theorem gValid_2 {r : GRat} (c2 : natStr (strVal r.den) ≠ r.den) : gValid r = false := by simp [gValid, c2]
theorem gValid_3 {r : GRat} (c1 : natStr (strVal r.num) = r.num) (c2 : natStr (strVal r.den) = r.den) (h : r.num.size = 0) : gValid r = (!r.neg && decide (r.den.size = 0)) := by simp [gValid, c1, c2, h]
theorem gValid_4 {r : GRat} (c1 : natStr (strVal r.num) = r.num) (c2 : natStr (strVal r.den) = r.den) (h : ¬ r.num.size = 0) : gValid r = (decide (r.den.size = 0) || (decide (strVal r.den ≠ 1) && decide (Nat.gcd (strVal r.num) (strVal r.den) = 1))) := by simp [gValid, c1, c2, h]

theorem qValid_1 (r : GRat) (w : World) (h1 : r.num.size ≤ 500000000000) (c1 : natStr (strVal r.num) ≠ r.num) :
    Calls Tryd.prog 62 #[vRat r] w fun e w' => e = .returned (.bool false) ∧ Below w.heap.size w w' := by
  have N1 := hid (fun w => normalize_any r.num w (by unfold maxLen; omega))
  obtain ⟨neg, num, den⟩ := r
  simp only at *
  generalize natStr (strVal num) = s at *
  have e1 := str_ne c1
  unfold vRat
  simp only
  clear c1
  go_enter Tryd.func62, Tryd.ntmps62
  go_wp2
  go_quiet ((go_at_call 74; exact Calls.quiet_of_same ((N1.out _).mono fun e w' h => ⟨h.1, h.2.symm⟩)))
  go_wp2
  go_ret
  exact ⟨rfl, Below.drewN ((Below.refl _ _).alloc (Nat.le_refl _) _) _⟩

theorem qValid_2 (r : GRat) (w : World) (h1 : r.num.size ≤ 500000000000) (h2 : r.den.size ≤ 500000000000) (c1 : natStr (strVal r.num) = r.num) (c2 : natStr (strVal r.den) ≠ r.den) :
    Calls Tryd.prog 62 #[vRat r] w fun e w' => e = .returned (.bool false) ∧ Below w.heap.size w w' := by
  have N1 := hid (fun w => normalize_any r.num w (by unfold maxLen; omega))
  have N2 := hid (fun w => normalize_any r.den w (by unfold maxLen; omega))
  rw [c1] at N1
  obtain ⟨neg, num, den⟩ := r
  simp only at *
  generalize natStr (strVal den) = s at *
  have e1 := str_ne c2
  unfold vRat
  simp only
  clear c1 c2
  go_enter Tryd.func62, Tryd.ntmps62
  go_wp2
  go_quiet ((first
    | (go_at_call_of 74 (Value.string num); exact Calls.quiet_of_same ((N1.out _).mono fun e w' h => ⟨h.1, h.2.symm⟩))
    | (go_at_call_of 74 (Value.string den); exact Calls.quiet_of_same ((N2.out _).mono fun e w' h => ⟨h.1, h.2.symm⟩))))
  go_wp2
  go_ret
  exact ⟨rfl, Below.drewN ((Below.refl _ _).alloc (Nat.le_refl _) _) _⟩

theorem qValid_3 (r : GRat) (w : World) (h1 : r.num.size ≤ 500000000000) (h2 : r.den.size ≤ 500000000000) (c1 : natStr (strVal r.num) = r.num) (c2 : natStr (strVal r.den) = r.den) (h : r.num.size = 0) :
    Calls Tryd.prog 62 #[vRat r] w fun e w' => e = .returned (.bool (!r.neg && decide (r.den.size = 0))) ∧ Below w.heap.size w w' := by
  have N1 := hid (fun w => normalize_any r.num w (by unfold maxLen; omega))
  have N2 := hid (fun w => normalize_any r.den w (by unfold maxLen; omega))
  rw [c1] at N1
  rw [c2] at N2
  obtain ⟨neg, num, den⟩ := r
  simp only at *
  have hz : num = { data := #[] } := ByteArray.ext (Array.eq_empty_of_size_eq_zero h)
  subst hz
  unfold vRat
  simp only
  clear c1 c2 h h1
  cases neg
  · by_cases hd : den.size = 0
    · have hz : den = { data := #[] } := ByteArray.ext (Array.eq_empty_of_size_eq_zero hd)
      subst hz
      clear hd h2
      go_enter Tryd.func62, Tryd.ntmps62
      go_wp2
      go_quiet ((go_at_call 74; exact Calls.quiet_of_same ((N1.out _).mono fun e w' h => ⟨h.1, h.2.symm⟩)))
      go_wp2
      go_ret
      exact ⟨rfl, Below.drewN ((Below.refl _ _).alloc (Nat.le_refl _) _) _⟩
    · have hne := num_ne hd
      have HR := hid (show (!false && decide (den.size = 0)) = false by simp [hd])
      rw [HR.out]
      clear hd h2
      go_enter Tryd.func62, Tryd.ntmps62
      go_wp2
      go_quiet ((first
        | (go_at_call_of 74 (Value.string { data := #[] }); exact Calls.quiet_of_same ((N1.out _).mono fun e w' h => ⟨h.1, h.2.symm⟩))
        | (go_at_call_of 74 (Value.string den); exact Calls.quiet_of_same ((N2.out _).mono fun e w' h => ⟨h.1, h.2.symm⟩))))
      go_wp2
      go_ret
      exact ⟨rfl, Below.drewN ((Below.refl _ _).alloc (Nat.le_refl _) _) _⟩
  · have HR := hid (show (!true && decide (den.size = 0)) = false by simp)
    rw [HR.out]
    clear h2
    go_enter Tryd.func62, Tryd.ntmps62
    go_wp2
    go_quiet ((first
      | (go_at_call_of 74 (Value.string { data := #[] }); exact Calls.quiet_of_same ((N1.out _).mono fun e w' h => ⟨h.1, h.2.symm⟩))
      | (go_at_call_of 74 (Value.string den); exact Calls.quiet_of_same ((N2.out _).mono fun e w' h => ⟨h.1, h.2.symm⟩))))
    go_wp2
    go_ret
    exact ⟨rfl, Below.drewN ((Below.refl _ _).alloc (Nat.le_refl _) _) _⟩

end Go.Proofs.YtgmedcncbpdimaaDoor
