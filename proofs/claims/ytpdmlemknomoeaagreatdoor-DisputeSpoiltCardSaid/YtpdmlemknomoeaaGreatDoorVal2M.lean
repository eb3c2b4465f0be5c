/- rational: Valid, clean: walked. -/
import Derived.Test.YtpdmlemknomoeaaGreatDoorNat18M
import Derived.Test.YtpdmlemknomoeaaGreatDoorRef1M
import Derived.Test.YtpdmlemknomoeaaGreatDoorRef10M
import Derived.Deep.RegionHeld3
import Derived.Deep.DeepCutAuto
set_option linter.unusedVariables false
set_option linter.unusedSimpArgs false
set_option linter.defProp false
set_option linter.unnecessarySimpa false
section
/- rational: Valid, clean: walked. -/
namespace Go.Proofs.YtpdmlemknomoeaaGreatDoor
open Go.RowKit
theorem natStr_ne1 {n : Nat} (h : n ≠ 1) : natStr n ≠ { data := #[1] } := by
  intro e; rw [← natStr_one] at e; exact h (natStr_inj e)
theorem qValid_4 (r : GRat) (w : World) (h1 : r.num.size ≤ 500000000000) (h2 : r.den.size ≤ 500000000000) (c1 : natStr (strVal r.num) = r.num) (c2 : natStr (strVal r.den) = r.den) (h : ¬ r.num.size = 0) :
    Calls Tryz.prog 119 #[vRat r] w fun e w' => e = .returned (.bool (decide (r.den.size = 0) || (decide (strVal r.den ≠ 1) && decide (Nat.gcd (strVal r.num) (strVal r.den) = 1)))) ∧ Below w.heap.size w w' := by
  have N1 := hid (fun w => normalize_any r.num w (by unfold maxLen; omega))
  have N2 := hid (fun w => normalize_any r.den w (by unfold maxLen; omega))
  rw [c1] at N1
  rw [c2] at N2
  have G := hid (fun w => GCD_any r.num r.den w h1 h2)
  obtain ⟨neg, num, den⟩ := r
  simp only at *
  have hne := num_ne h
  unfold vRat
  simp only
  by_cases hd : den.size = 0
  · have hz : den = { data := #[] } := ByteArray.ext (Array.eq_empty_of_size_eq_zero hd)
    subst hz
    clear hd h2 c1 c2 h h1 G
    go_enter Tryz.func119, Tryz.ntmps119
    go_wp2
    go_quiet ((first
      | (go_at_call_of 105 (Value.string num); exact Calls.quiet_of_same ((N1.out _).mono fun e w' h => ⟨h.1, h.2.symm⟩))
      | (go_at_call_of 105 (Value.string { data := #[] }); exact Calls.quiet_of_same ((N2.out _).mono fun e w' h => ⟨h.1, h.2.symm⟩))))
    go_wp2
    go_ret
    exact ⟨rfl, Below.drewN ((Below.refl _ _).alloc (Nat.le_refl _) _) _⟩
  have hne2 := num_ne hd
  by_cases ho : strVal den = 1
  · rw [ho, natStr_one] at c2
    subst c2
    have HR := hid (show (decide (({ data := #[1] } : ByteArray).size = 0) || (decide (strVal { data := #[1] } ≠ 1) && decide (Nat.gcd (strVal num) (strVal { data := #[1] }) = 1))) = false by rw [ho]; simp only [ne_eq, not_true, decide_false, Bool.false_and, Bool.or_false]; exact decide_eq_false hd)
    rw [HR.out]
    clear hd h2 c1 h h1 G ho hne2
    go_enter Tryz.func119, Tryz.ntmps119
    go_wp2
    go_quiet ((first
      | (go_at_call_of 105 (Value.string num); exact Calls.quiet_of_same ((N1.out _).mono fun e w' h => ⟨h.1, h.2.symm⟩))
      | (go_at_call_of 105 (Value.string { data := #[1] }); exact Calls.quiet_of_same ((N2.out _).mono fun e w' h => ⟨h.1, h.2.symm⟩))))
    go_wp2
    go_ret
    exact ⟨rfl, Below.drewN ((Below.refl _ _).alloc (Nat.le_refl _) _) _⟩
  have hn1 := str_ne1 (s := den) (fun e => ho (by rw [e, ← natStr_one]; exact strVal_natStr 1))
  by_cases hg : Nat.gcd (strVal num) (strVal den) = 1
  · rw [hg, natStr_one] at G
    have HR := hid (show (decide (den.size = 0) || (decide (strVal den ≠ 1) && decide (Nat.gcd (strVal num) (strVal den) = 1))) = true by simp [ho, hg])
    rw [HR.out]
    clear hd h2 c1 c2 h h1 ho hg
    go_enter Tryz.func119, Tryz.ntmps119
    go_wp2
    go_quiet ((first
      | (go_at_call_of 105 (Value.string num); exact Calls.quiet_of_same ((N1.out _).mono fun e w' h => ⟨h.1, h.2.symm⟩))
      | (go_at_call_of 105 (Value.string den); exact Calls.quiet_of_same ((N2.out _).mono fun e w' h => ⟨h.1, h.2.symm⟩))))
    go_wp2_with fail
    refine Calls.mono (G.out _) ?_
    rintro e w1 ⟨rfl, hb1⟩
    go_wp2
    go_ret
    exact ⟨rfl, Below.step (Below.drewN ((Below.refl _ _).alloc (Nat.le_refl _) _) _) hb1⟩
  have hn3 := str_ne1 (natStr_ne1 hg)
  have HR := hid (show (decide (den.size = 0) || (decide (strVal den ≠ 1) && decide (Nat.gcd (strVal num) (strVal den) = 1))) = false by simp [hd, hg])
  rw [HR.out]
  generalize natStr (Nat.gcd (strVal num) (strVal den)) = gs at *
  clear hd h2 c1 c2 h h1 ho hg HR
  go_enter Tryz.func119, Tryz.ntmps119
  go_wp2
  go_quiet ((first
    | (go_at_call_of 105 (Value.string num); exact Calls.quiet_of_same ((N1.out _).mono fun e w' h => ⟨h.1, h.2.symm⟩))
    | (go_at_call_of 105 (Value.string den); exact Calls.quiet_of_same ((N2.out _).mono fun e w' h => ⟨h.1, h.2.symm⟩))))
  go_wp2_with fail
  refine Calls.mono (G.out _) ?_
  rintro e w1 ⟨rfl, hb1⟩
  go_wp2
  go_ret
  exact ⟨rfl, Below.step (Below.drewN ((Below.refl _ _).alloc (Nat.le_refl _) _) _) hb1⟩
theorem qValid_any (r : GRat) (w : World) (h1 : r.num.size ≤ 500000000000) (h2 : r.den.size ≤ 500000000000) :
    Calls Tryz.prog 119 #[vRat r] w fun e w' => e = .returned (.bool (gValid r)) ∧ Below w.heap.size w w' := by
  by_cases c1 : natStr (strVal r.num) = r.num
  · by_cases c2 : natStr (strVal r.den) = r.den
    · by_cases h : r.num.size = 0
      · rw [gValid_3 c1 c2 h]; exact qValid_3 r w h1 h2 c1 c2 h
      rw [gValid_4 c1 c2 h]; exact qValid_4 r w h1 h2 c1 c2 h
    rw [gValid_2 c2]; exact qValid_2 r w h1 h2 c1 c2
  rw [gValid_1 c1]; exact qValid_1 r w h1 c1
theorem qclean_any (r : GRat) (w : World) (h1 : r.num.size ≤ 500000000000) (h2 : r.den.size ≤ 500000000000) :
    Calls Tryz.prog 97 #[vRat r] w fun e w' => e = .returned (vRat (enc (qOf r))) ∧ Below w.heap.size w w' := by
  have V := hid (fun w => qValid_any r w h1 h2)
  have hx0 := hid (Bx2.new w r gZ)
  clear h1 h2
  by_cases h : gValid r = true
  · rw [qOf_ok h]
    rw [h] at V
    unfold vRat
    clear h
    go_enter Tryz.func97, Tryz.ntmps97
    go_wp2_with fail
    refine Calls.mono (V.out _) ?_
    rintro e w1 ⟨rfl, hb1⟩
    have hx1 := hx0.out.next hb1
    obtain ⟨x0, x1, x2, x3, x4⟩ := hx1.1.facts
    obtain ⟨t0, t1, t2, t3, t4⟩ := hx1.2.1.facts
    go_wp2
    refine ret_blk3 (hx1.ret _).1 (fun W' c0 c1 c2 => by simp [results, Tryz.results97, go_sem, c0, c1, c2]) rfl ⟨rfl, (hx1.ret _).2⟩
  have h' : gValid r = false := by simpa using h
  rw [qOf_bad h', ← gZ_enc]
  rw [h'] at V
  unfold vRat
  clear h h'
  go_enter Tryz.func97, Tryz.ntmps97
  go_wp2_with fail
  refine Calls.mono (V.out _) ?_
  rintro e w1 ⟨rfl, hb1⟩
  have hx1 := hx0.out.next hb1
  obtain ⟨t0, t1, t2, t3, t4⟩ := hx1.2.1.facts
  go_wp2
  refine ret_blk3 (hx1.ret gZ).1 (fun W' c0 c1 c2 => by simp [results, Tryz.results97, go_sem, c0, c1, c2]) rfl ⟨rfl, (hx1.ret gZ).2⟩
end Go.Proofs.YtpdmlemknomoeaaGreatDoor
end
section
/- insolvencyref1: Valid, Fix: walked. -/
namespace Go.Proofs.YtpdmlemknomoeaaGreatDoor
open Go.RowKit
theorem rValid_1 (r : GRat) (w : World) (h1 : r.num.size ≤ 500000000000) (c1 : natStr (strVal r.num) ≠ r.num) :
    Calls Tryz.prog 115 #[vRat r] w fun e w' => e = .returned (.bool false) ∧ Below w.heap.size w w' := by
  have N1 := hid (fun w => rNormalize_any r.num w (by unfold maxLen; omega))
  obtain ⟨neg, num, den⟩ := r
  simp only at *
  generalize natStr (strVal num) = s at *
  have e1 := str_ne c1
  unfold vRat
  simp only
  clear c1
  go_enter Tryz.func115, Tryz.ntmps115
  go_wp2
  go_quiet ((go_at_call 118; exact Calls.quiet_of_same ((N1.out _).mono fun e w' h => ⟨h.1, h.2.symm⟩)))
  go_wp2
  go_ret
  exact ⟨rfl, Below.drewN ((Below.refl _ _).alloc (Nat.le_refl _) _) _⟩
theorem rValid_2 (r : GRat) (w : World) (h1 : r.num.size ≤ 500000000000) (h2 : r.den.size ≤ 500000000000) (c1 : natStr (strVal r.num) = r.num) (c2 : natStr (strVal r.den) ≠ r.den) :
    Calls Tryz.prog 115 #[vRat r] w fun e w' => e = .returned (.bool false) ∧ Below w.heap.size w w' := by
  have N1 := hid (fun w => rNormalize_any r.num w (by unfold maxLen; omega))
  have N2 := hid (fun w => rNormalize_any r.den w (by unfold maxLen; omega))
  rw [c1] at N1
  obtain ⟨neg, num, den⟩ := r
  simp only at *
  generalize natStr (strVal den) = s at *
  have e1 := str_ne c2
  unfold vRat
  simp only
  clear c1 c2
  go_enter Tryz.func115, Tryz.ntmps115
  go_wp2
  go_quiet ((first
    | (go_at_call_of 118 (Value.string num); exact Calls.quiet_of_same ((N1.out _).mono fun e w' h => ⟨h.1, h.2.symm⟩))
    | (go_at_call_of 118 (Value.string den); exact Calls.quiet_of_same ((N2.out _).mono fun e w' h => ⟨h.1, h.2.symm⟩))))
  go_wp2
  go_ret
  exact ⟨rfl, Below.drewN ((Below.refl _ _).alloc (Nat.le_refl _) _) _⟩
theorem rValid_3 (r : GRat) (w : World) (h1 : r.num.size ≤ 500000000000) (h2 : r.den.size ≤ 500000000000) (c1 : natStr (strVal r.num) = r.num) (c2 : natStr (strVal r.den) = r.den) (h : r.num.size = 0) (ho : strVal r.den ≠ 1) :
    Calls Tryz.prog 115 #[vRat r] w fun e w' => e = .returned (.bool (!r.neg && decide (r.den.size = 0))) ∧ Below w.heap.size w w' := by
  have N1 := hid (fun w => rNormalize_any r.num w (by unfold maxLen; omega))
  have N2 := hid (fun w => rNormalize_any r.den w (by unfold maxLen; omega))
  rw [c1] at N1
  rw [c2] at N2
  obtain ⟨neg, num, den⟩ := r
  simp only at *
  have hz : num = { data := #[] } := ByteArray.ext (Array.eq_empty_of_size_eq_zero h)
  subst hz
  unfold vRat
  simp only
  clear c1 c2 h h1
  cases neg
  · by_cases hd : den.size = 0
    · have hz : den = { data := #[] } := ByteArray.ext (Array.eq_empty_of_size_eq_zero hd)
      subst hz
      clear hd h2 ho
      have hn1 : ((({ data := #[] } : ByteArray).toList) == [1]) = false := by rw [ByteArray.toList_eq]; rfl
      go_enter Tryz.func115, Tryz.ntmps115
      go_wp2
      go_quiet ((go_at_call 118; exact Calls.quiet_of_same ((N1.out _).mono fun e w' h => ⟨h.1, h.2.symm⟩)))
      go_wp2
      go_ret
      exact ⟨rfl, Below.drewN ((Below.refl _ _).alloc (Nat.le_refl _) _) _⟩
    have hne := num_ne hd
    have HR := hid (show (!false && decide (den.size = 0)) = false by simp [hd])
    rw [HR.out]
    have hn1 := str_ne1 (s := den) (fun e => ho (by rw [e, ← natStr_one]; exact strVal_natStr 1))
    clear hd h2 ho
    go_enter Tryz.func115, Tryz.ntmps115
    go_wp2
    go_quiet ((first
      | (go_at_call_of 118 (Value.string { data := #[] }); exact Calls.quiet_of_same ((N1.out _).mono fun e w' h => ⟨h.1, h.2.symm⟩))
      | (go_at_call_of 118 (Value.string den); exact Calls.quiet_of_same ((N2.out _).mono fun e w' h => ⟨h.1, h.2.symm⟩))))
    go_wp2
    go_ret
    exact ⟨rfl, Below.drewN ((Below.refl _ _).alloc (Nat.le_refl _) _) _⟩
  have HR := hid (show (!true && decide (den.size = 0)) = false by simp)
  rw [HR.out]
  have hn1 := str_ne1 (s := den) (fun e => ho (by rw [e, ← natStr_one]; exact strVal_natStr 1))
  clear h2 ho
  go_enter Tryz.func115, Tryz.ntmps115
  go_wp2
  go_quiet ((first
    | (go_at_call_of 118 (Value.string { data := #[] }); exact Calls.quiet_of_same ((N1.out _).mono fun e w' h => ⟨h.1, h.2.symm⟩))
    | (go_at_call_of 118 (Value.string den); exact Calls.quiet_of_same ((N2.out _).mono fun e w' h => ⟨h.1, h.2.symm⟩))))
  go_wp2
  go_ret
  exact ⟨rfl, Below.drewN ((Below.refl _ _).alloc (Nat.le_refl _) _) _⟩
theorem rValid_o (r : GRat) (w : World) (h1 : r.num.size ≤ 500000000000) (h2 : r.den.size ≤ 500000000000) (c1 : natStr (strVal r.num) = r.num) (c2 : natStr (strVal r.den) = r.den) (ho : strVal r.den = 1) :
    Calls Tryz.prog 115 #[vRat r] w fun e w' => e = .returned (.bool false) ∧ Below w.heap.size w w' := by
  have N1 := hid (fun w => rNormalize_any r.num w (by unfold maxLen; omega))
  have N2 := hid (fun w => rNormalize_any r.den w (by unfold maxLen; omega))
  rw [c1] at N1
  rw [c2] at N2
  obtain ⟨neg, num, den⟩ := r
  simp only at *
  rw [ho, natStr_one] at c2
  subst c2
  unfold vRat
  simp only
  clear c1 h1 h2 ho
  go_enter Tryz.func115, Tryz.ntmps115
  go_wp2
  go_quiet ((first
    | (go_at_call_of 118 (Value.string num); exact Calls.quiet_of_same ((N1.out _).mono fun e w' h => ⟨h.1, h.2.symm⟩))
    | (go_at_call_of 118 (Value.string { data := #[1] }); exact Calls.quiet_of_same ((N2.out _).mono fun e w' h => ⟨h.1, h.2.symm⟩))))
  go_wp2
  go_ret
  exact ⟨rfl, Below.drewN ((Below.refl _ _).alloc (Nat.le_refl _) _) _⟩
theorem rValid_4 (r : GRat) (w : World) (h1 : r.num.size ≤ 500000000000) (h2 : r.den.size ≤ 500000000000) (c1 : natStr (strVal r.num) = r.num) (c2 : natStr (strVal r.den) = r.den) (h : ¬ r.num.size = 0) (ho : strVal r.den ≠ 1) :
    Calls Tryz.prog 115 #[vRat r] w fun e w' => e = .returned (.bool (decide (r.den.size = 0) || (decide (strVal r.den ≠ 1) && decide (Nat.gcd (strVal r.num) (strVal r.den) = 1)))) ∧ Below w.heap.size w w' := by
  have N1 := hid (fun w => rNormalize_any r.num w (by unfold maxLen; omega))
  have N2 := hid (fun w => rNormalize_any r.den w (by unfold maxLen; omega))
  rw [c1] at N1
  rw [c2] at N2
  have G := hid (fun w => rGCD_any r.num r.den w h1 h2)
  obtain ⟨neg, num, den⟩ := r
  simp only at *
  have hne := num_ne h
  unfold vRat
  simp only
  by_cases hd : den.size = 0
  · have hz : den = { data := #[] } := ByteArray.ext (Array.eq_empty_of_size_eq_zero hd)
    subst hz
    clear hd h2 c1 c2 h h1 G ho
    have hn1 : ((({ data := #[] } : ByteArray).toList) == [1]) = false := by rw [ByteArray.toList_eq]; rfl
    go_enter Tryz.func115, Tryz.ntmps115
    go_wp2
    go_quiet ((first
      | (go_at_call_of 118 (Value.string num); exact Calls.quiet_of_same ((N1.out _).mono fun e w' h => ⟨h.1, h.2.symm⟩))
      | (go_at_call_of 118 (Value.string { data := #[] }); exact Calls.quiet_of_same ((N2.out _).mono fun e w' h => ⟨h.1, h.2.symm⟩))))
    go_wp2
    go_ret
    exact ⟨rfl, Below.drewN ((Below.refl _ _).alloc (Nat.le_refl _) _) _⟩
  have hne2 := num_ne hd
  have hn1 := str_ne1 (s := den) (fun e => ho (by rw [e, ← natStr_one]; exact strVal_natStr 1))
  by_cases hg : Nat.gcd (strVal num) (strVal den) = 1
  · rw [hg, natStr_one] at G
    have HR := hid (show (decide (den.size = 0) || (decide (strVal den ≠ 1) && decide (Nat.gcd (strVal num) (strVal den) = 1))) = true by simp [ho, hg])
    rw [HR.out]
    clear hd h2 c1 c2 h h1 ho hg
    go_enter Tryz.func115, Tryz.ntmps115
    go_wp2
    go_quiet ((first
      | (go_at_call_of 118 (Value.string num); exact Calls.quiet_of_same ((N1.out _).mono fun e w' h => ⟨h.1, h.2.symm⟩))
      | (go_at_call_of 118 (Value.string den); exact Calls.quiet_of_same ((N2.out _).mono fun e w' h => ⟨h.1, h.2.symm⟩))))
    go_wp2_with fail
    refine Calls.mono (G.out _) ?_
    rintro e w1 ⟨rfl, hb1⟩
    go_wp2
    go_ret
    exact ⟨rfl, Below.step (Below.drewN ((Below.refl _ _).alloc (Nat.le_refl _) _) _) hb1⟩
  have hn3 := str_ne1 (natStr_ne1 hg)
  have HR := hid (show (decide (den.size = 0) || (decide (strVal den ≠ 1) && decide (Nat.gcd (strVal num) (strVal den) = 1))) = false by simp [hd, hg])
  rw [HR.out]
  generalize natStr (Nat.gcd (strVal num) (strVal den)) = gs at *
  clear hd h2 c1 c2 h h1 ho hg HR
  go_enter Tryz.func115, Tryz.ntmps115
  go_wp2
  go_quiet ((first
    | (go_at_call_of 118 (Value.string num); exact Calls.quiet_of_same ((N1.out _).mono fun e w' h => ⟨h.1, h.2.symm⟩))
    | (go_at_call_of 118 (Value.string den); exact Calls.quiet_of_same ((N2.out _).mono fun e w' h => ⟨h.1, h.2.symm⟩))))
  go_wp2_with fail
  refine Calls.mono (G.out _) ?_
  rintro e w1 ⟨rfl, hb1⟩
  go_wp2
  go_ret
  exact ⟨rfl, Below.step (Below.drewN ((Below.refl _ _).alloc (Nat.le_refl _) _) _) hb1⟩
theorem rValid_any (r : GRat) (w : World) (h1 : r.num.size ≤ 500000000000) (h2 : r.den.size ≤ 500000000000) :
    Calls Tryz.prog 115 #[vRat r] w fun e w' => e = .returned (.bool (gValid r)) ∧ Below w.heap.size w w' := by
  by_cases c1 : natStr (strVal r.num) = r.num
  · by_cases c2 : natStr (strVal r.den) = r.den
    · by_cases ho : strVal r.den = 1
      · have hd : ¬ r.den.size = 0 := fun h => by rw [strVal_zero_of h] at ho; cases ho
        have hf : gValid r = false := by
          by_cases h : r.num.size = 0
          · rw [gValid_3 c1 c2 h]; simp [hd]
          rw [gValid_4 c1 c2 h]; simp [hd, ho]
        rw [hf]; exact rValid_o r w h1 h2 c1 c2 ho
      by_cases h : r.num.size = 0
      · rw [gValid_3 c1 c2 h]; exact rValid_3 r w h1 h2 c1 c2 h ho
      rw [gValid_4 c1 c2 h]; exact rValid_4 r w h1 h2 c1 c2 h ho
    rw [gValid_2 c2]; exact rValid_2 r w h1 h2 c1 c2
  rw [gValid_1 c1]; exact rValid_1 r w h1 c1
theorem rFix_any (r : GRat) (w : World) (h1 : r.num.size ≤ 500000000000) (h2 : r.den.size ≤ 500000000000) :
    Calls Tryz.prog 92 #[vRat r] w fun e w' => e = .returned (vRat (enc (qOf r))) ∧ Below w.heap.size w w' := by
  have V := hid (fun w => rValid_any r w h1 h2)
  have hx0 := hid (Bx2.new w r gZ)
  clear h1 h2
  by_cases h : gValid r = true
  · rw [qOf_ok h]
    rw [h] at V
    unfold vRat
    clear h
    go_enter Tryz.func92, Tryz.ntmps92
    go_wp2_with fail
    refine Calls.mono (V.out _) ?_
    rintro e w1 ⟨rfl, hb1⟩
    have hx1 := hx0.out.next hb1
    obtain ⟨x0, x1, x2, x3, x4⟩ := hx1.1.facts
    obtain ⟨t0, t1, t2, t3, t4⟩ := hx1.2.1.facts
    go_wp2
    refine ret_blk3 (hx1.ret _).1 (fun W' c0 c1 c2 => by simp [results, Tryz.results92, go_sem, c0, c1, c2]) rfl ⟨rfl, (hx1.ret _).2⟩
  have h' : gValid r = false := by simpa using h
  rw [qOf_bad h', ← gZ_enc]
  rw [h'] at V
  unfold vRat
  clear h h'
  go_enter Tryz.func92, Tryz.ntmps92
  go_wp2_with fail
  refine Calls.mono (V.out _) ?_
  rintro e w1 ⟨rfl, hb1⟩
  have hx1 := hx0.out.next hb1
  obtain ⟨t0, t1, t2, t3, t4⟩ := hx1.2.1.facts
  go_wp2
  refine ret_blk3 (hx1.ret gZ).1 (fun W' c0 c1 c2 => by simp [results, Tryz.results92, go_sem, c0, c1, c2]) rfl ⟨rfl, (hx1.ret gZ).2⟩
end Go.Proofs.YtpdmlemknomoeaaGreatDoor
end
section
/- rational: den, signOf, negate, magnitude: walked. -/
namespace Go.Proofs.YtpdmlemknomoeaaGreatDoor
open Go.RowKit
theorem qsignOf_any (r : GRat) (w : World) : Calls Tryz.prog 96 #[vRat r] w fun e w' => e = .returned (.int .i64 (sgnZ r)) ∧ Below w.heap.size w w' := by
  unfold vRat
  by_cases h : r.num.size = 0
  · have hz : r.num = { data := #[] } := ByteArray.ext (Array.eq_empty_of_size_eq_zero h)
    have hR := hid (show sgnZ r = 0 by unfold sgnZ; rw [if_pos h])
    rw [hz]
    clear h hz
    go_enter Tryz.func96, Tryz.ntmps96
    go_wp2
    go_ret
    exact ⟨ret_int hR.out.symm, (Below.refl _ _).alloc (Nat.le_refl _) _⟩
  have hz := num_ne h
  cases hn : r.neg with
  | true =>
    have hR := hid (show sgnZ r = -1 by unfold sgnZ; rw [if_neg h, if_pos hn])
    clear h hn
    go_enter Tryz.func96, Tryz.ntmps96
    go_wp2
    go_ret
    exact ⟨ret_int hR.out.symm, (Below.refl _ _).alloc (Nat.le_refl _) _⟩
  | false =>
    have hR := hid (show sgnZ r = 1 by unfold sgnZ; rw [if_neg h, if_neg (by rw [hn]; decide)])
    clear h hn
    go_enter Tryz.func96, Tryz.ntmps96
    go_wp2
    go_ret
    exact ⟨ret_int hR.out.symm, (Below.refl _ _).alloc (Nat.le_refl _) _⟩
end Go.Proofs.YtpdmlemknomoeaaGreatDoor
end
section
/- rational: reduced, Int, Sign; insolvencyref1: Int, Make, Fraction: walked. -/
namespace Go.Proofs.YtpdmlemknomoeaaGreatDoor
open Go.RowKit
theorem ret_blk3t {P : Program} {fn : Func} {R : Ending → World → Prop} {a : Act} {W : World} {b T : Nat} {x y z : Value} {t : Bool} (h : Blk3 W b T x y z)
    (hres : ∀ W', W'.cell? ⟨b, 0, none⟩ = some x → W'.cell? ⟨b, 1, none⟩ = some y → W'.cell? ⟨b, 2, none⟩ = some z → (results fn a.tmps).run P W' = .ok (.tuple #[.agg #[x, y, z], .bool t]) W') (hd : a.defers = []) (hR : R (.returned (.tuple #[.agg #[x, y, z], .bool t])) W) : bodyPost P fn R .ret a W :=
  bodyPost_ret (hres W h.cells.1 h.cells.2.1 h.cells.2.2.1) hd hR
end Go.Proofs.YtpdmlemknomoeaaGreatDoor
end
section
/- rational: Int, Sign; insolvencyref1: Int, Make, Fraction, Sign of a Fix: walked. -/
namespace Go.Proofs.YtpdmlemknomoeaaGreatDoor
open Go.RowKit
theorem qSign_any (r : GRat) (w : World) (h1 : r.num.size ≤ 500000000000) (h2 : r.den.size ≤ 500000000000) :
    Calls Tryz.prog 72 #[vRat r] w fun e w' => e = .returned (.int .i64 (qSgn (qOf r))) ∧ Below w.heap.size w w' := by
  have C := hid (fun w => qclean_any r w h1 h2)
  have S := hid (fun w => qsignOf_any (enc (qOf r)) w)
  rw [sgnZ_enc] at S
  generalize enc (qOf r) = a at *
  generalize qSgn (qOf r) = s at *
  unfold vRat
  clear h1 h2
  go_enter Tryz.func72, Tryz.ntmps72
  go_wp2_with fail
  refine Calls.mono (C.out _) ?_
  rintro e w1 ⟨rfl, hb1⟩
  go_wp2_with fail
  refine Calls.mono (S.out _) ?_
  rintro e w2 ⟨rfl, hb2⟩
  go_wp2
  go_ret
  exact ⟨rfl, Below.step (((Below.refl _ _).alloc (Nat.le_refl _) _).step hb1) hb2⟩
theorem rInt_any (n : Int) (w : World) (h0 : -9223372036854775808 ≤ n) (h1 : n ≤ 9223372036854775807) : Calls Tryz.prog 35 #[.int .i64 n] w fun e w' => e = .returned (vRat (enc (n : Rat))) ∧ Below w.heap.size w w' := by
  have S := hid (fun w => size_any n w h0 h1)
  have F := hid (fun w => rfromUint_any n.natAbs w (by omega))
  rw [enc_int]
  have hx0 := hid (Bx1.new w)
  generalize natStr n.natAbs = s at *
  generalize ((n.natAbs : Nat) : Int) = u at *
  unfold vRat bEmpty
  simp only
  go_enter Tryz.func35, Tryz.ntmps35
  go_wp2_with fail
  refine Calls.mono (S.out _) ?_
  rintro e w1 ⟨rfl, rfl⟩
  go_wp2_with fail
  refine Calls.mono (F.out _) ?_
  rintro e w2 ⟨rfl, hb2⟩
  have hx1 := hx0.out.next hb2
  obtain ⟨x0, x1, x2, x3, x4⟩ := hx1.1.facts
  go_wp2
  have S := hx1.ret ⟨decide (n < 0), s, { data := #[] }⟩
  dsimp only at S
  refine ret_blk3 S.1 (fun W' c0 c1 c2 => by simp [results, Tryz.results35, go_sem, c0, c1, c2]) rfl ⟨rfl, S.2⟩
set_option maxRecDepth 100000 in
set_option maxHeartbeats 2000000 in
theorem rMake_ok (neg : Bool) (a b : ByteArray) (k : Nat) (w : World) (hk : k ≤ 400000000000) (ha : a.size ≤ k) (hb : b.size ≤ k) (hd : 0 < strVal b) :
    Calls Tryz.prog 101 #[.bool neg, .string a, .string b] w fun e w' => e = .returned (.tuple #[vRat (enc (mkRat (sg neg (strVal a)) (strVal b))), .bool true]) ∧ Below w.heap.size w w' := by
  have L1 := hid (fun w => cLimbs a w (by omega))
  have L2 := hid (fun w => cLimbs b w (by omega))
  have NA := hid (NB.str ha)
  have NB' := hid (NB.str hb)
  generalize strVal a = N at *
  generalize strVal b = D at *
  have R := hid (fun (w : World) (u v : Value) => rreduced_any neg u v N D k w NA.out NB'.out (by omega) hd)
  generalize enc (mkRat (sg neg N) D) = q at *
  have hx0 := hid (Bx1.new w)
  unfold vRat
  clear ha hb hk
  have HD := hid hd
  clear hd
  go_enter Tryz.func101, Tryz.ntmps101
  go_wp2_with fail
  refine Calls.mono (L2.out _) ?_
  rintro e w1 ⟨v, rfl, hv, hb1⟩
  obtain ⟨vb, voff, vm, vc, vx, rfl, hv2, hv3, hv4, hv5⟩ := hv.kind HD.out
  have hvm : 0 < vm := by omega
  clear hv2 hv3 hv5
  go_wp2_with fail
  refine Calls.mono (L1.out _) ?_
  rintro e w2 ⟨u, rfl, hu, hb2⟩
  go_wp2_with fail
  refine Calls.mono (R.out _ _ _ hu (hv.below hb2)) ?_
  rintro e w3 ⟨rfl, hb3⟩
  unfold vRat
  have hx1 := ((hx0.out.next hb1).next hb2).next hb3
  obtain ⟨x0, x1, x2, x3, x4⟩ := hx1.1.facts
  go_wp2
  refine ret_blk3t (hx1.ret q).1 (fun W' c0 c1 c2 => by simp [results, Tryz.results101, go_sem, c0, c1, c2]) rfl ⟨rfl, (hx1.ret _).2⟩
set_option maxRecDepth 100000 in
set_option maxHeartbeats 2000000 in
theorem rFraction_ok (a b : Nat) (w : World) (ha : a ≤ 9223372036854775807) (hb : b ≤ 9223372036854775807) (hd : 0 < b) :
    Calls Tryz.prog 78 #[.int .i64 a, .int .i64 b] w fun e w' => e = .returned (.tuple #[vRat (enc (mkRat (a : Int) b)), .bool true]) ∧ Below w.heap.size w w' := by
  have S1 := hid (fun w => size_any a w (by omega) (by omega))
  have S2 := hid (fun w => size_any b w (by omega) (by omega))
  have F1 := hid (fun w => rfromUint_any a w (by omega))
  have F2 := hid (fun w => rfromUint_any b w (by omega))
  have s1 : (natStr a).size ≤ 8 := by rw [natStr_size]; exact natBytes_len_le (by omega)
  have s2 : (natStr b).size ≤ 8 := by rw [natStr_size]; exact natBytes_len_le (by omega)
  have M := hid (fun w => rMake_ok false (natStr a) (natStr b) 8 w (by decide) s1 s2 (by rw [strVal_natStr]; exact hd))
  simp only [strVal_natStr] at M
  rw [show sg false a = (a : Int) from rfl] at M
  rw [Int.natAbs_natCast] at S1 S2
  generalize enc (mkRat (a : Int) b) = q at *
  have hx0 := hid (Bx1.new w)
  generalize natStr a = sa at *
  generalize natStr b = sb at *
  unfold vRat
  clear s1 s2
  go_enter Tryz.func78, Tryz.ntmps78
  go_wp2_with fail
  refine Calls.mono (S1.out _) ?_
  rintro e w1 ⟨rfl, rfl⟩
  go_wp2_with fail
  refine Calls.mono (F1.out _) ?_
  rintro e w1 ⟨rfl, hb1⟩
  go_wp2_with fail
  refine Calls.mono (S2.out _) ?_
  rintro e w2 ⟨rfl, rfl⟩
  go_wp2_with fail
  refine Calls.mono (F2.out _) ?_
  rintro e w2 ⟨rfl, hb2⟩
  go_wp2_with fail
  refine Calls.mono (M.out _) ?_
  rintro e w3 ⟨rfl, hb3⟩
  unfold vRat
  have hx1 := ((hx0.out.next hb1).next hb2).next hb3
  obtain ⟨x0, x1, x2, x3, x4⟩ := hx1.1.facts
  go_wp2
  refine ret_blk3t (hx1.ret q).1 (fun W' c0 c1 c2 => by simp [results, Tryz.results78, go_sem, c0, c1, c2]) rfl ⟨rfl, (hx1.ret _).2⟩
end Go.Proofs.YtpdmlemknomoeaaGreatDoor
end
section
/- rational: add: walked. -/
namespace Go.Proofs.YtpdmlemknomoeaaGreatDoor
open Go.RowKit
attribute [local go_sem ↓] Go.wp_at_zero Go.wp_at_succ
theorem NB.size {k n : Nat} (h : NB k n) : (natStr n).size ≤ k := by rw [natStr_size]; exact natBytes_len_le h
theorem Bx3.drewN {w w1 : World} {r1 r2 : GRat} (h : Bx3 w w1 r1 r2) (n : Nat) : Bx3 w (w1.drewN n) r1 r2 := ⟨h.1, h.2.1, h.2.2.1, h.2.2.2.drewN n⟩
end Go.Proofs.YtpdmlemknomoeaaGreatDoor
end
section
/- rational: Add, Subtract: walked. -/
namespace Go.Proofs.YtpdmlemknomoeaaGreatDoor
open Go.RowKit
attribute [local go_sem ↓] Go.wp_at_zero Go.wp_at_succ
def sB (m : Nat) (r : GRat) : Prop := r.num.size ≤ m ∧ r.den.size ≤ m
theorem sB.qB {m : Nat} {r : GRat} (h : sB m r) (hm : 0 < m) : qB m (qOf r) := qB_qOf hm h.1 h.2
theorem sB_enc {m : Nat} {q : Rat} (h : Go.Proofs.YtpdmlemknomoeaaGreatDoor.qB m q) : sB m (enc q) := enc_size h
theorem sB.mono {m n : Nat} {r : GRat} (h : sB m r) (hm : m ≤ n) : sB n r := ⟨Nat.le_trans h.1 hm, Nat.le_trans h.2 hm⟩
end Go.Proofs.YtpdmlemknomoeaaGreatDoor
end
section
/- rational: Compare: walked. -/
namespace Go.Proofs.YtpdmlemknomoeaaGreatDoor
open Go.RowKit
attribute [local go_sem ↓] Go.wp_at_zero Go.wp_at_succ
abbrev put3 (w : World) (b : Nat) (a : GRat) : World := ((w.setCell ⟨b, 0, none⟩ (.bool a.neg)).setCell ⟨b, 1, none⟩ (.string a.num)).setCell ⟨b, 2, none⟩ (.string a.den)
theorem Bx.put {w : World} {b : Nat} {r : GRat} (h : Bx w b r) (a : GRat) : Bx (put3 w b a) b a := (Blk3.stored h _ _ _).2.2.2
theorem Bx.other {w : World} {b b' : Nat} {r : GRat} (h : Bx w b r) (hne : b' ≠ b) (a : GRat) : Bx (put3 w b' a) b r := ((Blk3.other h hne _ _).other hne _ _).other hne _ _
theorem below_put {w w1 : World} {b : Nat} (h : Below w.heap.size w w1) (hb : w.heap.size ≤ b) (a : GRat) : Below w.heap.size w (put3 w1 b a) := ((h.setCell hb _).setCell hb _).setCell hb _
end Go.Proofs.YtpdmlemknomoeaaGreatDoor
end
section
/- rational: Min, Max, Multiply: walked. -/
namespace Go.Proofs.YtpdmlemknomoeaaGreatDoor
open Go.RowKit
attribute [local go_sem ↓] Go.wp_at_zero Go.wp_at_succ
end Go.Proofs.YtpdmlemknomoeaaGreatDoor
end
