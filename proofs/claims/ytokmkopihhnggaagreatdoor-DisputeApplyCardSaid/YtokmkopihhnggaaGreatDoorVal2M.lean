/- rational: Valid, clean: walked. -/
import Derived.Test.YtokmkopihhnggaaGreatDoorNat18M
import Derived.Test.YtokmkopihhnggaaGreatDoorRef1M
import Derived.Test.YtokmkopihhnggaaGreatDoorRef10M
import Derived.Deep.RegionHeld3
import Derived.Deep.DeepCutAuto
set_option linter.unusedVariables false
set_option linter.unusedSimpArgs false
namespace Go.Proofs.YtokmkopihhnggaaGreatDoor
open Go.RowKit
theorem natStr_ne1 {n : Nat} (h : n ≠ 1) : natStr n ≠ { data := #[1] } := by
 intro e; rw [← natStr_one] at e; exact h (natStr_inj e)
theorem qValid_4 (r : GRat) (w : World) (h1 : r.num.size ≤ 500000000000) (h2 : r.den.size ≤ 500000000000) (c1 : natStr (strVal r.num) = r.num) (c2 : natStr (strVal r.den) = r.den) (h : ¬ r.num.size = 0) :
  Calls Tryz.prog 126 #[vRat r] w fun e w' => e = .returned (.bool (decide (r.den.size = 0) || (decide (strVal r.den ≠ 1) && decide (Nat.gcd (strVal r.num) (strVal r.den) = 1)))) ∧ Below w.heap.size w w' := by
 have N1 := hid (fun w => normalize_any r.num w (by unfold maxLen; omega))
 have N2 := hid (fun w => normalize_any r.den w (by unfold maxLen; omega))
 rw [c1] at N1
 rw [c2] at N2
 have G := hid (fun w => GCD_any r.num r.den w h1 h2)
 obtain ⟨neg, num, den⟩ := r
 simp only at *
 have hne := num_ne h
 unfold vRat
 simp only
 by_cases hd : den.size = 0
 ·have hz : den = { data := #[] } := ByteArray.ext (Array.eq_empty_of_size_eq_zero hd)
  subst hz
  clear hd h2 c1 c2 h h1 G
  go_enter Tryz.func126, Tryz.ntmps126
  go_wp2
  go_quiet ((first
   | (go_at_call_of 134 (Value.string num); exact Calls.quiet_of_same ((N1.out _).mono fun e w' h => ⟨h.1, h.2.symm⟩))
   | (go_at_call_of 134 (Value.string { data := #[] }); exact Calls.quiet_of_same ((N2.out _).mono fun e w' h => ⟨h.1, h.2.symm⟩))))
  go_wp2
  go_ret
  exact ⟨rfl, Below.drewN ((Below.refl _ _).alloc (Nat.le_refl _) _) _⟩
 have hne2 := num_ne hd
 by_cases ho : strVal den = 1
 ·rw [ho, natStr_one] at c2
  subst c2
  have HR := hid (show (decide (({ data := #[1] } : ByteArray).size = 0) || (decide (strVal { data := #[1] } ≠ 1) && decide (Nat.gcd (strVal num) (strVal { data := #[1] }) = 1))) = false by rw [ho]; simp only [ne_eq, not_true, decide_false, Bool.false_and, Bool.or_false]; exact decide_eq_false hd)
  rw [HR.out]
  clear hd h2 c1 h h1 G ho hne2
  go_enter Tryz.func126, Tryz.ntmps126
  go_wp2
  go_quiet ((first
   | (go_at_call_of 134 (Value.string num); exact Calls.quiet_of_same ((N1.out _).mono fun e w' h => ⟨h.1, h.2.symm⟩))
   | (go_at_call_of 134 (Value.string { data := #[1] }); exact Calls.quiet_of_same ((N2.out _).mono fun e w' h => ⟨h.1, h.2.symm⟩))))
  go_wp2
  go_ret
  exact ⟨rfl, Below.drewN ((Below.refl _ _).alloc (Nat.le_refl _) _) _⟩
 have hn1 := str_ne1 (s := den) (fun e => ho (by rw [e, ← natStr_one]; exact strVal_natStr 1))
 by_cases hg : Nat.gcd (strVal num) (strVal den) = 1
 ·rw [hg, natStr_one] at G
  have HR := hid (show (decide (den.size = 0) || (decide (strVal den ≠ 1) && decide (Nat.gcd (strVal num) (strVal den) = 1))) = true by simp [ho, hg])
  rw [HR.out]
  clear hd h2 c1 c2 h h1 ho hg
  go_enter Tryz.func126, Tryz.ntmps126
  go_wp2
  go_quiet ((first
   | (go_at_call_of 134 (Value.string num); exact Calls.quiet_of_same ((N1.out _).mono fun e w' h => ⟨h.1, h.2.symm⟩))
   | (go_at_call_of 134 (Value.string den); exact Calls.quiet_of_same ((N2.out _).mono fun e w' h => ⟨h.1, h.2.symm⟩))))
  go_wp2_with fail
  refine Calls.mono (G.out _) ?_
  rintro e w1 ⟨rfl, hb1⟩
  go_wp2
  go_ret
  exact ⟨rfl, Below.step (Below.drewN ((Below.refl _ _).alloc (Nat.le_refl _) _) _) hb1⟩
 have hn3 := str_ne1 (natStr_ne1 hg)
 have HR := hid (show (decide (den.size = 0) || (decide (strVal den ≠ 1) && decide (Nat.gcd (strVal num) (strVal den) = 1))) = false by simp [hd, hg])
 rw [HR.out]
 generalize natStr (Nat.gcd (strVal num) (strVal den)) = gs at *
 clear hd h2 c1 c2 h h1 ho hg HR
 go_enter Tryz.func126, Tryz.ntmps126
 go_wp2
 go_quiet ((first
  | (go_at_call_of 134 (Value.string num); exact Calls.quiet_of_same ((N1.out _).mono fun e w' h => ⟨h.1, h.2.symm⟩))
  | (go_at_call_of 134 (Value.string den); exact Calls.quiet_of_same ((N2.out _).mono fun e w' h => ⟨h.1, h.2.symm⟩))))
 go_wp2_with fail
 refine Calls.mono (G.out _) ?_
 rintro e w1 ⟨rfl, hb1⟩
 go_wp2
 go_ret
 exact ⟨rfl, Below.step (Below.drewN ((Below.refl _ _).alloc (Nat.le_refl _) _) _) hb1⟩
theorem qValid_any (r : GRat) (w : World) (h1 : r.num.size ≤ 500000000000) (h2 : r.den.size ≤ 500000000000) :
  Calls Tryz.prog 126 #[vRat r] w fun e w' => e = .returned (.bool (gValid r)) ∧ Below w.heap.size w w' := by
 by_cases c1 : natStr (strVal r.num) = r.num
 ·by_cases c2 : natStr (strVal r.den) = r.den
  ·by_cases h : r.num.size = 0
   ·rw [gValid_3 c1 c2 h]; exact qValid_3 r w h1 h2 c1 c2 h
   rw [gValid_4 c1 c2 h]; exact qValid_4 r w h1 h2 c1 c2 h
  rw [gValid_2 c2]; exact qValid_2 r w h1 h2 c1 c2
 rw [gValid_1 c1]; exact qValid_1 r w h1 c1
theorem qclean_any (r : GRat) (w : World) (h1 : r.num.size ≤ 500000000000) (h2 : r.den.size ≤ 500000000000) :
  Calls Tryz.prog 78 #[vRat r] w fun e w' => e = .returned (vRat (enc (qOf r))) ∧ Below w.heap.size w w' := by
 have V := hid (fun w => qValid_any r w h1 h2)
 have hx0 := hid (Bx2.new w r gZ)
 clear h1 h2
 by_cases h : gValid r = true
 ·rw [qOf_ok h]
  rw [h] at V
  unfold vRat
  clear h
  go_enter Tryz.func78, Tryz.ntmps78
  go_wp2_with fail
  refine Calls.mono (V.out _) ?_
  rintro e w1 ⟨rfl, hb1⟩
  have hx1 := hx0.out.next hb1
  obtain ⟨x0, x1, x2, x3, x4⟩ := hx1.1.facts
  obtain ⟨t0, t1, t2, t3, t4⟩ := hx1.2.1.facts
  go_wp2
  refine ret_blk3 (hx1.ret _).1 (fun W' c0 c1 c2 => by simp [results, Tryz.results78, go_sem, c0, c1, c2]) rfl ⟨rfl, (hx1.ret _).2⟩
 have h' : gValid r = false := by simpa using h
 rw [qOf_bad h', ← gZ_enc]
 rw [h'] at V
 unfold vRat
 clear h h'
 go_enter Tryz.func78, Tryz.ntmps78
 go_wp2_with fail
 refine Calls.mono (V.out _) ?_
 rintro e w1 ⟨rfl, hb1⟩
 have hx1 := hx0.out.next hb1
 obtain ⟨t0, t1, t2, t3, t4⟩ := hx1.2.1.facts
 go_wp2
 refine ret_blk3 (hx1.ret gZ).1 (fun W' c0 c1 c2 => by simp [results, Tryz.results78, go_sem, c0, c1, c2]) rfl ⟨rfl, (hx1.ret gZ).2⟩
theorem rValid_1 (r : GRat) (w : World) (h1 : r.num.size ≤ 500000000000) (c1 : natStr (strVal r.num) ≠ r.num) :
  Calls Tryz.prog 156 #[vRat r] w fun e w' => e = .returned (.bool false) ∧ Below w.heap.size w w' := by
 have N1 := hid (fun w => rNormalize_any r.num w (by unfold maxLen; omega))
 obtain ⟨neg, num, den⟩ := r
 simp only at *
 generalize natStr (strVal num) = s at *
 have e1 := str_ne c1
 unfold vRat
 simp only
 clear c1
 go_enter Tryz.func156, Tryz.ntmps156
 go_wp2
 go_quiet ((go_at_call 192; exact Calls.quiet_of_same ((N1.out _).mono fun e w' h => ⟨h.1, h.2.symm⟩)))
 go_wp2
 go_ret
 exact ⟨rfl, Below.drewN ((Below.refl _ _).alloc (Nat.le_refl _) _) _⟩
theorem rValid_2 (r : GRat) (w : World) (h1 : r.num.size ≤ 500000000000) (h2 : r.den.size ≤ 500000000000) (c1 : natStr (strVal r.num) = r.num) (c2 : natStr (strVal r.den) ≠ r.den) :
  Calls Tryz.prog 156 #[vRat r] w fun e w' => e = .returned (.bool false) ∧ Below w.heap.size w w' := by
 have N1 := hid (fun w => rNormalize_any r.num w (by unfold maxLen; omega))
 have N2 := hid (fun w => rNormalize_any r.den w (by unfold maxLen; omega))
 rw [c1] at N1
 obtain ⟨neg, num, den⟩ := r
 simp only at *
 generalize natStr (strVal den) = s at *
 have e1 := str_ne c2
 unfold vRat
 simp only
 clear c1 c2
 go_enter Tryz.func156, Tryz.ntmps156
 go_wp2
 go_quiet ((first
  | (go_at_call_of 192 (Value.string num); exact Calls.quiet_of_same ((N1.out _).mono fun e w' h => ⟨h.1, h.2.symm⟩))
  | (go_at_call_of 192 (Value.string den); exact Calls.quiet_of_same ((N2.out _).mono fun e w' h => ⟨h.1, h.2.symm⟩))))
 go_wp2
 go_ret
 exact ⟨rfl, Below.drewN ((Below.refl _ _).alloc (Nat.le_refl _) _) _⟩
theorem rValid_3 (r : GRat) (w : World) (h1 : r.num.size ≤ 500000000000) (h2 : r.den.size ≤ 500000000000) (c1 : natStr (strVal r.num) = r.num) (c2 : natStr (strVal r.den) = r.den) (h : r.num.size = 0) (ho : strVal r.den ≠ 1) :
  Calls Tryz.prog 156 #[vRat r] w fun e w' => e = .returned (.bool (!r.neg && decide (r.den.size = 0))) ∧ Below w.heap.size w w' := by
 have N1 := hid (fun w => rNormalize_any r.num w (by unfold maxLen; omega))
 have N2 := hid (fun w => rNormalize_any r.den w (by unfold maxLen; omega))
 rw [c1] at N1
 rw [c2] at N2
 obtain ⟨neg, num, den⟩ := r
 simp only at *
 have hz : num = { data := #[] } := ByteArray.ext (Array.eq_empty_of_size_eq_zero h)
 subst hz
 unfold vRat
 simp only
 clear c1 c2 h h1
 cases neg
 ·by_cases hd : den.size = 0
  ·have hz : den = { data := #[] } := ByteArray.ext (Array.eq_empty_of_size_eq_zero hd)
   subst hz
   clear hd h2 ho
   have hn1 : ((({ data := #[] } : ByteArray).toList) == [1]) = false := by rw [ByteArray.toList_eq]; rfl
   go_enter Tryz.func156, Tryz.ntmps156
   go_wp2
   go_quiet ((go_at_call 192; exact Calls.quiet_of_same ((N1.out _).mono fun e w' h => ⟨h.1, h.2.symm⟩)))
   go_wp2
   go_ret
   exact ⟨rfl, Below.drewN ((Below.refl _ _).alloc (Nat.le_refl _) _) _⟩
  have hne := num_ne hd
  have HR := hid (show (!false && decide (den.size = 0)) = false by simp [hd])
  rw [HR.out]
  have hn1 := str_ne1 (s := den) (fun e => ho (by rw [e, ← natStr_one]; exact strVal_natStr 1))
  clear hd h2 ho
  go_enter Tryz.func156, Tryz.ntmps156
  go_wp2
  go_quiet ((first
   | (go_at_call_of 192 (Value.string { data := #[] }); exact Calls.quiet_of_same ((N1.out _).mono fun e w' h => ⟨h.1, h.2.symm⟩))
   | (go_at_call_of 192 (Value.string den); exact Calls.quiet_of_same ((N2.out _).mono fun e w' h => ⟨h.1, h.2.symm⟩))))
  go_wp2
  go_ret
  exact ⟨rfl, Below.drewN ((Below.refl _ _).alloc (Nat.le_refl _) _) _⟩
 have HR := hid (show (!true && decide (den.size = 0)) = false by simp)
 rw [HR.out]
 have hn1 := str_ne1 (s := den) (fun e => ho (by rw [e, ← natStr_one]; exact strVal_natStr 1))
 clear h2 ho
 go_enter Tryz.func156, Tryz.ntmps156
 go_wp2
 go_quiet ((first
  | (go_at_call_of 192 (Value.string { data := #[] }); exact Calls.quiet_of_same ((N1.out _).mono fun e w' h => ⟨h.1, h.2.symm⟩))
  | (go_at_call_of 192 (Value.string den); exact Calls.quiet_of_same ((N2.out _).mono fun e w' h => ⟨h.1, h.2.symm⟩))))
 go_wp2
 go_ret
 exact ⟨rfl, Below.drewN ((Below.refl _ _).alloc (Nat.le_refl _) _) _⟩
theorem rValid_o (r : GRat) (w : World) (h1 : r.num.size ≤ 500000000000) (h2 : r.den.size ≤ 500000000000) (c1 : natStr (strVal r.num) = r.num) (c2 : natStr (strVal r.den) = r.den) (ho : strVal r.den = 1) :
  Calls Tryz.prog 156 #[vRat r] w fun e w' => e = .returned (.bool false) ∧ Below w.heap.size w w' := by
 have N1 := hid (fun w => rNormalize_any r.num w (by unfold maxLen; omega))
 have N2 := hid (fun w => rNormalize_any r.den w (by unfold maxLen; omega))
 rw [c1] at N1
 rw [c2] at N2
 obtain ⟨neg, num, den⟩ := r
 simp only at *
 rw [ho, natStr_one] at c2
 subst c2
 unfold vRat
 simp only
 clear c1 h1 h2 ho
 go_enter Tryz.func156, Tryz.ntmps156
 go_wp2
 go_quiet ((first
  | (go_at_call_of 192 (Value.string num); exact Calls.quiet_of_same ((N1.out _).mono fun e w' h => ⟨h.1, h.2.symm⟩))
  | (go_at_call_of 192 (Value.string { data := #[1] }); exact Calls.quiet_of_same ((N2.out _).mono fun e w' h => ⟨h.1, h.2.symm⟩))))
 go_wp2
 go_ret
 exact ⟨rfl, Below.drewN ((Below.refl _ _).alloc (Nat.le_refl _) _) _⟩
theorem rValid_4 (r : GRat) (w : World) (h1 : r.num.size ≤ 500000000000) (h2 : r.den.size ≤ 500000000000) (c1 : natStr (strVal r.num) = r.num) (c2 : natStr (strVal r.den) = r.den) (h : ¬ r.num.size = 0) (ho : strVal r.den ≠ 1) :
  Calls Tryz.prog 156 #[vRat r] w fun e w' => e = .returned (.bool (decide (r.den.size = 0) || (decide (strVal r.den ≠ 1) && decide (Nat.gcd (strVal r.num) (strVal r.den) = 1)))) ∧ Below w.heap.size w w' := by
 have N1 := hid (fun w => rNormalize_any r.num w (by unfold maxLen; omega))
 have N2 := hid (fun w => rNormalize_any r.den w (by unfold maxLen; omega))
 rw [c1] at N1
 rw [c2] at N2
 have G := hid (fun w => rGCD_any r.num r.den w h1 h2)
 obtain ⟨neg, num, den⟩ := r
 simp only at *
 have hne := num_ne h
 unfold vRat
 simp only
 by_cases hd : den.size = 0
 ·have hz : den = { data := #[] } := ByteArray.ext (Array.eq_empty_of_size_eq_zero hd)
  subst hz
  clear hd h2 c1 c2 h h1 G ho
  have hn1 : ((({ data := #[] } : ByteArray).toList) == [1]) = false := by rw [ByteArray.toList_eq]; rfl
  go_enter Tryz.func156, Tryz.ntmps156
  go_wp2
  go_quiet ((first
   | (go_at_call_of 192 (Value.string num); exact Calls.quiet_of_same ((N1.out _).mono fun e w' h => ⟨h.1, h.2.symm⟩))
   | (go_at_call_of 192 (Value.string { data := #[] }); exact Calls.quiet_of_same ((N2.out _).mono fun e w' h => ⟨h.1, h.2.symm⟩))))
  go_wp2
  go_ret
  exact ⟨rfl, Below.drewN ((Below.refl _ _).alloc (Nat.le_refl _) _) _⟩
 have hne2 := num_ne hd
 have hn1 := str_ne1 (s := den) (fun e => ho (by rw [e, ← natStr_one]; exact strVal_natStr 1))
 by_cases hg : Nat.gcd (strVal num) (strVal den) = 1
 ·rw [hg, natStr_one] at G
  have HR := hid (show (decide (den.size = 0) || (decide (strVal den ≠ 1) && decide (Nat.gcd (strVal num) (strVal den) = 1))) = true by simp [ho, hg])
  rw [HR.out]
  clear hd h2 c1 c2 h h1 ho hg
  go_enter Tryz.func156, Tryz.ntmps156
  go_wp2
  go_quiet ((first
   | (go_at_call_of 192 (Value.string num); exact Calls.quiet_of_same ((N1.out _).mono fun e w' h => ⟨h.1, h.2.symm⟩))
   | (go_at_call_of 192 (Value.string den); exact Calls.quiet_of_same ((N2.out _).mono fun e w' h => ⟨h.1, h.2.symm⟩))))
  go_wp2_with fail
  refine Calls.mono (G.out _) ?_
  rintro e w1 ⟨rfl, hb1⟩
  go_wp2
  go_ret
  exact ⟨rfl, Below.step (Below.drewN ((Below.refl _ _).alloc (Nat.le_refl _) _) _) hb1⟩
 have hn3 := str_ne1 (natStr_ne1 hg)
 have HR := hid (show (decide (den.size = 0) || (decide (strVal den ≠ 1) && decide (Nat.gcd (strVal num) (strVal den) = 1))) = false by simp [hd, hg])
 rw [HR.out]
 generalize natStr (Nat.gcd (strVal num) (strVal den)) = gs at *
 clear hd h2 c1 c2 h h1 ho hg HR
 go_enter Tryz.func156, Tryz.ntmps156
 go_wp2
 go_quiet ((first
  | (go_at_call_of 192 (Value.string num); exact Calls.quiet_of_same ((N1.out _).mono fun e w' h => ⟨h.1, h.2.symm⟩))
  | (go_at_call_of 192 (Value.string den); exact Calls.quiet_of_same ((N2.out _).mono fun e w' h => ⟨h.1, h.2.symm⟩))))
 go_wp2_with fail
 refine Calls.mono (G.out _) ?_
 rintro e w1 ⟨rfl, hb1⟩
 go_wp2
 go_ret
 exact ⟨rfl, Below.step (Below.drewN ((Below.refl _ _).alloc (Nat.le_refl _) _) _) hb1⟩
theorem rValid_any (r : GRat) (w : World) (h1 : r.num.size ≤ 500000000000) (h2 : r.den.size ≤ 500000000000) :
  Calls Tryz.prog 156 #[vRat r] w fun e w' => e = .returned (.bool (gValid r)) ∧ Below w.heap.size w w' := by
 by_cases c1 : natStr (strVal r.num) = r.num
 ·by_cases c2 : natStr (strVal r.den) = r.den
  ·by_cases ho : strVal r.den = 1
   ·have hd : ¬ r.den.size = 0 := fun h => by rw [strVal_zero_of h] at ho; cases ho
    have hf : gValid r = false := by
     by_cases h : r.num.size = 0
     ·rw [gValid_3 c1 c2 h]; simp [hd]
     rw [gValid_4 c1 c2 h]; simp [hd, ho]
    rw [hf]; exact rValid_o r w h1 h2 c1 c2 ho
   by_cases h : r.num.size = 0
   ·rw [gValid_3 c1 c2 h]; exact rValid_3 r w h1 h2 c1 c2 h ho
   rw [gValid_4 c1 c2 h]; exact rValid_4 r w h1 h2 c1 c2 h ho
  rw [gValid_2 c2]; exact rValid_2 r w h1 h2 c1 c2
 rw [gValid_1 c1]; exact rValid_1 r w h1 c1
theorem rFix_any (r : GRat) (w : World) (h1 : r.num.size ≤ 500000000000) (h2 : r.den.size ≤ 500000000000) :
  Calls Tryz.prog 116 #[vRat r] w fun e w' => e = .returned (vRat (enc (qOf r))) ∧ Below w.heap.size w w' := by
 have V := hid (fun w => rValid_any r w h1 h2)
 have hx0 := hid (Bx2.new w r gZ)
 clear h1 h2
 by_cases h : gValid r = true
 ·rw [qOf_ok h]
  rw [h] at V
  unfold vRat
  clear h
  go_enter Tryz.func116, Tryz.ntmps116
  go_wp2_with fail
  refine Calls.mono (V.out _) ?_
  rintro e w1 ⟨rfl, hb1⟩
  have hx1 := hx0.out.next hb1
  obtain ⟨x0, x1, x2, x3, x4⟩ := hx1.1.facts
  obtain ⟨t0, t1, t2, t3, t4⟩ := hx1.2.1.facts
  go_wp2
  refine ret_blk3 (hx1.ret _).1 (fun W' c0 c1 c2 => by simp [results, Tryz.results116, go_sem, c0, c1, c2]) rfl ⟨rfl, (hx1.ret _).2⟩
 have h' : gValid r = false := by simpa using h
 rw [qOf_bad h', ← gZ_enc]
 rw [h'] at V
 unfold vRat
 clear h h'
 go_enter Tryz.func116, Tryz.ntmps116
 go_wp2_with fail
 refine Calls.mono (V.out _) ?_
 rintro e w1 ⟨rfl, hb1⟩
 have hx1 := hx0.out.next hb1
 obtain ⟨t0, t1, t2, t3, t4⟩ := hx1.2.1.facts
 go_wp2
 refine ret_blk3 (hx1.ret gZ).1 (fun W' c0 c1 c2 => by simp [results, Tryz.results116, go_sem, c0, c1, c2]) rfl ⟨rfl, (hx1.ret gZ).2⟩
theorem qden_enc (q : Rat) (w : World) : Calls Tryz.prog 86 #[vRat (enc q)] w fun e w' => e = .returned (.string (natStr q.den)) ∧ Below w.heap.size w w' := by
 by_cases h : q.den = 1
 ·have e1 : (enc q).den = { data := #[] } := by unfold enc; simp only [h, if_true]; rfl
  rw [h, natStr_one]
  unfold vRat
  rw [e1]
  generalize enc q = a at *
  clear h e1
  go_enter Tryz.func86, Tryz.ntmps86
  go_wp2
  go_ret
  exact ⟨rfl, (Below.refl _ _).alloc (Nat.le_refl _) _⟩
 have e1 : (enc q).den = natStr q.den := by unfold enc; simp only [h, if_false]
 have hne := num_ne (natStr_ne q.den_nz)
 unfold vRat
 rw [e1]
 generalize natStr q.den = d at *
 generalize enc q = a at *
 clear h e1
 go_enter Tryz.func86, Tryz.ntmps86
 go_wp2
 go_ret
 exact ⟨rfl, (Below.refl _ _).alloc (Nat.le_refl _) _⟩
theorem qsignOf_any (r : GRat) (w : World) : Calls Tryz.prog 83 #[vRat r] w fun e w' => e = .returned (.int .i64 (sgnZ r)) ∧ Below w.heap.size w w' := by
 unfold vRat
 by_cases h : r.num.size = 0
 ·have hz : r.num = { data := #[] } := ByteArray.ext (Array.eq_empty_of_size_eq_zero h)
  have hR := hid (show sgnZ r = 0 by unfold sgnZ; rw [if_pos h])
  rw [hz]
  clear h hz
  go_enter Tryz.func83, Tryz.ntmps83
  go_wp2
  go_ret
  exact ⟨ret_int hR.out.symm, (Below.refl _ _).alloc (Nat.le_refl _) _⟩
 have hz := num_ne h
 cases hn : r.neg with
 | true =>
  have hR := hid (show sgnZ r = -1 by unfold sgnZ; rw [if_neg h, if_pos hn])
  clear h hn
  go_enter Tryz.func83, Tryz.ntmps83
  go_wp2
  go_ret
  exact ⟨ret_int hR.out.symm, (Below.refl _ _).alloc (Nat.le_refl _) _⟩
 | false =>
  have hR := hid (show sgnZ r = 1 by unfold sgnZ; rw [if_neg h, if_neg (by rw [hn]; decide)])
  clear h hn
  go_enter Tryz.func83, Tryz.ntmps83
  go_wp2
  go_ret
  exact ⟨ret_int hR.out.symm, (Below.refl _ _).alloc (Nat.le_refl _) _⟩
theorem natStr_0 : natStr 0 = { data := #[] } := natStr_e
theorem ret_blk3t {P : Program} {fn : Func} {R : Ending → World → Prop} {a : Act} {W : World} {b T : Nat} {x y z : Value} {t : Bool} (h : Blk3 W b T x y z)
  (hres : ∀ W', W'.cell? ⟨b, 0, none⟩ = some x → W'.cell? ⟨b, 1, none⟩ = some y → W'.cell? ⟨b, 2, none⟩ = some z → (results fn a.tmps).run P W' = .ok (.tuple #[.agg #[x, y, z], .bool t]) W') (hd : a.defers = []) (hR : R (.returned (.tuple #[.agg #[x, y, z], .bool t])) W) : bodyPost P fn R .ret a W :=
 bodyPost_ret (hres W h.cells.1 h.cells.2.1 h.cells.2.2.1) hd hR
set_option maxRecDepth 100000 in
set_option maxHeartbeats 2000000 in
theorem qreduced_any (neg : Bool) (a b : ByteArray) (w : World) (ha : a.size ≤ 400000000000) (hb : b.size ≤ 400000000000) (hd : 0 < strVal b) :
  Calls Tryz.prog 88 #[.bool neg, .string a, .string b] w fun e w' => e = .returned (vRat (enc (mkRat (sg neg (strVal a)) (strVal b)))) ∧ Below w.heap.size w w' := by
 have N1 := hid (fun w => normalize_any a w (by unfold maxLen; omega))
 have N2 := hid (fun w => normalize_any b w (by unfold maxLen; omega))
 have sa := natStr_strVal_size a
 have sb := natStr_strVal_size b
 have hx0 := hid (Bx1.new w)
 generalize strVal a = N at *
 generalize strVal b = D at *
 by_cases hN : N = 0
 ·subst hN
  rw [sg_zero, Rat.zero_mkRat, ← gZ_enc]
  rw [natStr_0] at N1
  unfold vRat
  clear ha hb sa sb hd
  generalize natStr D = d at *
  go_enter Tryz.func88, Tryz.ntmps88
  go_wp2_with fail
  refine Calls.mono (N1.out _) ?_
  rintro e w1 ⟨rfl, rfl⟩
  go_wp2_with fail
  refine Calls.mono (N2.out _) ?_
  rintro e w1 ⟨rfl, rfl⟩
  go_wp2
  go_returns
  exact ⟨rfl, (Below.refl _ _).alloc (Nat.le_refl _) _⟩
 have hE := enc_mkRat (neg := neg) (n := N) (d := D) hN (by omega)
 rw [hE]
 unfold vRat
 simp only
 have hn1 := num_ne (natStr_ne hN)
 obtain ⟨g, hg⟩ : ∃ g, g = Nat.gcd N D := ⟨_, rfl⟩
 have hg0 : 0 < g := by rw [hg]; exact Nat.gcd_pos_of_pos_right _ hd
 have G := hid (fun w => GCD_any (natStr N) (natStr D) w (by omega) (by omega))
 simp only [strVal_natStr] at G
 rw [← hg] at G ⊢
 have sg' : (natStr g).size ≤ 500000000000 := by
  have : (natStr g).size ≤ (natStr N).size := by
   rw [natStr_size, natStr_size]; exact natBytes_mono (by rw [hg]; exact Nat.gcd_le_left _ (by omega))
  omega
 have D1 := hid (fun w => Divide_ok (natStr N) (natStr g) w (by omega) sg' (by rw [strVal_natStr]; exact hg0))
 have D2 := hid (fun w => Divide_ok (natStr D) (natStr g) w (by omega) sg' (by rw [strVal_natStr]; exact hg0))
 simp only [strVal_natStr] at D1 D2
 by_cases hD : D = 1
 ·subst hD
  have hg1 : g = 1 := by rw [hg]; exact Nat.gcd_one_right N
  subst hg1
  have HR := hid (show natStr (N / 1) = natStr N ∧ (if 1 / 1 = 1 then bEmpty else natStr (1 / 1)) = ({ data := #[] } : ByteArray) from ⟨by rw [Nat.div_one], rfl⟩)
  rw [HR.out.1, HR.out.2]
  rw [natStr_one] at N2
  generalize natStr N = n at *
  clear G D1 D2 hE hg hg0 hd sa sb sg' ha hb hN HR
  go_enter Tryz.func88, Tryz.ntmps88
  go_wp2_with fail
  refine Calls.mono (N1.out _) ?_
  rintro e w1 ⟨rfl, rfl⟩
  go_wp2_with fail
  refine Calls.mono (N2.out _) ?_
  rintro e w1 ⟨rfl, rfl⟩
  go_wp2
  go_returns
  exact ⟨rfl, (Below.refl _ _).alloc (Nat.le_refl _) _⟩
 have hd1 := str_ne1 (natStr_ne1 hD)
 by_cases hg1 : g = 1
 ·have HR := hid (show natStr (N / g) = natStr N ∧ (if D / g = 1 then bEmpty else natStr (D / g)) = natStr D from ⟨by rw [hg1, Nat.div_one], by rw [hg1, Nat.div_one, if_neg hD]⟩)
  rw [HR.out.1, HR.out.2]
  rw [hg1, natStr_one] at G
  generalize natStr N = n at *
  generalize natStr D = d at *
  clear D1 D2 hE hg hg0 hd sa sb sg' ha hb hN HR hD hg1
  go_enter Tryz.func88, Tryz.ntmps88
  go_wp2_with fail
  refine Calls.mono (N1.out _) ?_
  rintro e w1 ⟨rfl, rfl⟩
  go_wp2_with fail
  refine Calls.mono (N2.out _) ?_
  rintro e w1 ⟨rfl, rfl⟩
  go_wp2_with fail
  refine Calls.mono (G.out _) ?_
  rintro e w1 ⟨rfl, hb1⟩
  have hx1 := hx0.out.next hb1
  obtain ⟨x0, x1, x2, x3, x4⟩ := hx1.1.facts
  go_wp2
  have S := hx1.ret ⟨neg, n, d⟩
  dsimp only at S
  refine ret_blk3 S.1 (fun W' c0 c1 c2 => by simp [results, Tryz.results88, go_sem, c0, c1, c2]) rfl ⟨rfl, S.2⟩
 have hgs := str_ne1 (natStr_ne1 hg1)
 obtain ⟨n', hn'⟩ : ∃ n', n' = natStr (N / g) := ⟨_, rfl⟩
 rw [← hn'] at D1 ⊢
 by_cases hq : D / g = 1
 ·rw [hq, natStr_one] at D2
  have HR := hid (show (if D / g = 1 then bEmpty else natStr (D / g)) = ({ data := #[] } : ByteArray) by rw [if_pos hq]; rfl)
  rw [HR.out]
  generalize natStr (N % g) = n2 at *
  generalize natStr (D % g) = n3 at *
  generalize natStr N = n at *
  generalize natStr D = d at *
  generalize natStr g = gs at *
  clear hE hg hg0 hd sa sb sg' ha hb hN HR hD hg1 hq hn'
  go_enter Tryz.func88, Tryz.ntmps88
  go_wp2_with fail
  refine Calls.mono (N1.out _) ?_
  rintro e w1 ⟨rfl, rfl⟩
  go_wp2_with fail
  refine Calls.mono (N2.out _) ?_
  rintro e w1 ⟨rfl, rfl⟩
  go_wp2_with fail
  refine Calls.mono (G.out _) ?_
  rintro e w1 ⟨rfl, hb1⟩
  go_wp2_with fail
  refine Calls.mono (D1.out _) ?_
  rintro e w2 ⟨rfl, hb2⟩
  go_wp2_with fail
  refine Calls.mono (D2.out _) ?_
  rintro e w3 ⟨rfl, hb3⟩
  have hx1 := ((hx0.out.next hb1).next hb2).next hb3
  obtain ⟨x0, x1, x2, x3, x4⟩ := hx1.1.facts
  go_wp2
  have S := hx1.ret ⟨neg, n', { data := #[] }⟩
  dsimp only at S
  refine ret_blk3 S.1 (fun W' c0 c1 c2 => by simp [results, Tryz.results88, go_sem, c0, c1, c2]) rfl ⟨rfl, S.2⟩
 have hqs := str_ne1 (natStr_ne1 hq)
 have HR := hid (show (if D / g = 1 then bEmpty else natStr (D / g)) = natStr (D / g) by rw [if_neg hq])
 rw [HR.out]
 generalize natStr (N % g) = n2 at *
 generalize natStr (D % g) = n3 at *
 generalize natStr (D / g) = d' at *
 generalize natStr N = n at *
 generalize natStr D = d at *
 generalize natStr g = gs at *
 clear hE hg hg0 hd sa sb sg' ha hb hN HR hD hg1 hq hn'
 go_enter Tryz.func88, Tryz.ntmps88
 go_wp2_with fail
 refine Calls.mono (N1.out _) ?_
 rintro e w1 ⟨rfl, rfl⟩
 go_wp2_with fail
 refine Calls.mono (N2.out _) ?_
 rintro e w1 ⟨rfl, rfl⟩
 go_wp2_with fail
 refine Calls.mono (G.out _) ?_
 rintro e w1 ⟨rfl, hb1⟩
 go_wp2_with fail
 refine Calls.mono (D1.out _) ?_
 rintro e w2 ⟨rfl, hb2⟩
 go_wp2_with fail
 refine Calls.mono (D2.out _) ?_
 rintro e w3 ⟨rfl, hb3⟩
 have hx1 := ((hx0.out.next hb1).next hb2).next hb3
 obtain ⟨x0, x1, x2, x3, x4⟩ := hx1.1.facts
 go_wp2
 have S := hx1.ret ⟨neg, n', d'⟩
 dsimp only at S
 refine ret_blk3 S.1 (fun W' c0 c1 c2 => by simp [results, Tryz.results88, go_sem, c0, c1, c2]) rfl ⟨rfl, S.2⟩
theorem qSign_any (r : GRat) (w : World) (h1 : r.num.size ≤ 500000000000) (h2 : r.den.size ≤ 500000000000) :
  Calls Tryz.prog 42 #[vRat r] w fun e w' => e = .returned (.int .i64 (qSgn (qOf r))) ∧ Below w.heap.size w w' := by
 have C := hid (fun w => qclean_any r w h1 h2)
 have S := hid (fun w => qsignOf_any (enc (qOf r)) w)
 rw [sgnZ_enc] at S
 generalize enc (qOf r) = a at *
 generalize qSgn (qOf r) = s at *
 unfold vRat
 clear h1 h2
 go_enter Tryz.func42, Tryz.ntmps42
 go_wp2_with fail
 refine Calls.mono (C.out _) ?_
 rintro e w1 ⟨rfl, hb1⟩
 go_wp2_with fail
 refine Calls.mono (S.out _) ?_
 rintro e w2 ⟨rfl, hb2⟩
 go_wp2
 go_ret
 exact ⟨rfl, Below.step (((Below.refl _ _).alloc (Nat.le_refl _) _).step hb1) hb2⟩
theorem rInt_any (n : Int) (w : World) (h0 : -9223372036854775808 ≤ n) (h1 : n ≤ 9223372036854775807) : Calls Tryz.prog 50 #[.int .i64 n] w fun e w' => e = .returned (vRat (enc (n : Rat))) ∧ Below w.heap.size w w' := by
 have S := hid (fun w => size_any n w h0 h1)
 have F := hid (fun w => rfromUint_any n.natAbs w (by omega))
 rw [enc_int]
 have hx0 := hid (Bx1.new w)
 generalize natStr n.natAbs = s at *
 generalize ((n.natAbs : Nat) : Int) = u at *
 unfold vRat bEmpty
 simp only
 go_enter Tryz.func50, Tryz.ntmps50
 go_wp2_with fail
 refine Calls.mono (S.out _) ?_
 rintro e w1 ⟨rfl, rfl⟩
 go_wp2_with fail
 refine Calls.mono (F.out _) ?_
 rintro e w2 ⟨rfl, hb2⟩
 have hx1 := hx0.out.next hb2
 obtain ⟨x0, x1, x2, x3, x4⟩ := hx1.1.facts
 go_wp2
 have S := hx1.ret ⟨decide (n < 0), s, { data := #[] }⟩
 dsimp only at S
 refine ret_blk3 S.1 (fun W' c0 c1 c2 => by simp [results, Tryz.results50, go_sem, c0, c1, c2]) rfl ⟨rfl, S.2⟩
set_option maxRecDepth 100000 in
set_option maxHeartbeats 2000000 in
theorem rMake_ok (neg : Bool) (a b : ByteArray) (k : Nat) (w : World) (hk : k ≤ 400000000000) (ha : a.size ≤ k) (hb : b.size ≤ k) (hd : 0 < strVal b) :
  Calls Tryz.prog 143 #[.bool neg, .string a, .string b] w fun e w' => e = .returned (.tuple #[vRat (enc (mkRat (sg neg (strVal a)) (strVal b))), .bool true]) ∧ Below w.heap.size w w' := by
 have L1 := hid (fun w => cLimbs a w (by omega))
 have L2 := hid (fun w => cLimbs b w (by omega))
 have NA := hid (NB.str ha)
 have NB' := hid (NB.str hb)
 generalize strVal a = N at *
 generalize strVal b = D at *
 have R := hid (fun (w : World) (u v : Value) => rreduced_any neg u v N D k w NA.out NB'.out (by omega) hd)
 generalize enc (mkRat (sg neg N) D) = q at *
 have hx0 := hid (Bx1.new w)
 unfold vRat
 clear ha hb hk
 have HD := hid hd
 clear hd
 go_enter Tryz.func143, Tryz.ntmps143
 go_wp2_with fail
 refine Calls.mono (L2.out _) ?_
 rintro e w1 ⟨v, rfl, hv, hb1⟩
 obtain ⟨vb, voff, vm, vc, vx, rfl, hv2, hv3, hv4, hv5⟩ := hv.kind HD.out
 have hvm : 0 < vm := by omega
 clear hv2 hv3 hv5
 go_wp2_with fail
 refine Calls.mono (L1.out _) ?_
 rintro e w2 ⟨u, rfl, hu, hb2⟩
 go_wp2_with fail
 refine Calls.mono (R.out _ _ _ hu (hv.below hb2)) ?_
 rintro e w3 ⟨rfl, hb3⟩
 unfold vRat
 have hx1 := ((hx0.out.next hb1).next hb2).next hb3
 obtain ⟨x0, x1, x2, x3, x4⟩ := hx1.1.facts
 go_wp2
 refine ret_blk3t (hx1.ret q).1 (fun W' c0 c1 c2 => by simp [results, Tryz.results143, go_sem, c0, c1, c2]) rfl ⟨rfl, (hx1.ret _).2⟩
set_option maxRecDepth 100000 in
set_option maxHeartbeats 2000000 in
theorem rFraction_ok (a b : Nat) (w : World) (ha : a ≤ 9223372036854775807) (hb : b ≤ 9223372036854775807) (hd : 0 < b) :
  Calls Tryz.prog 90 #[.int .i64 a, .int .i64 b] w fun e w' => e = .returned (.tuple #[vRat (enc (mkRat (a : Int) b)), .bool true]) ∧ Below w.heap.size w w' := by
 have S1 := hid (fun w => size_any a w (by omega) (by omega))
 have S2 := hid (fun w => size_any b w (by omega) (by omega))
 have F1 := hid (fun w => rfromUint_any a w (by omega))
 have F2 := hid (fun w => rfromUint_any b w (by omega))
 have s1 : (natStr a).size ≤ 8 := by rw [natStr_size]; exact natBytes_len_le (by omega)
 have s2 : (natStr b).size ≤ 8 := by rw [natStr_size]; exact natBytes_len_le (by omega)
 have M := hid (fun w => rMake_ok false (natStr a) (natStr b) 8 w (by decide) s1 s2 (by rw [strVal_natStr]; exact hd))
 simp only [strVal_natStr] at M
 rw [show sg false a = (a : Int) from rfl] at M
 rw [Int.natAbs_natCast] at S1 S2
 generalize enc (mkRat (a : Int) b) = q at *
 have hx0 := hid (Bx1.new w)
 generalize natStr a = sa at *
 generalize natStr b = sb at *
 unfold vRat
 clear s1 s2
 go_enter Tryz.func90, Tryz.ntmps90
 go_wp2_with fail
 refine Calls.mono (S1.out _) ?_
 rintro e w1 ⟨rfl, rfl⟩
 go_wp2_with fail
 refine Calls.mono (F1.out _) ?_
 rintro e w1 ⟨rfl, hb1⟩
 go_wp2_with fail
 refine Calls.mono (S2.out _) ?_
 rintro e w2 ⟨rfl, rfl⟩
 go_wp2_with fail
 refine Calls.mono (F2.out _) ?_
 rintro e w2 ⟨rfl, hb2⟩
 go_wp2_with fail
 refine Calls.mono (M.out _) ?_
 rintro e w3 ⟨rfl, hb3⟩
 unfold vRat
 have hx1 := ((hx0.out.next hb1).next hb2).next hb3
 obtain ⟨x0, x1, x2, x3, x4⟩ := hx1.1.facts
 go_wp2
 refine ret_blk3t (hx1.ret q).1 (fun W' c0 c1 c2 => by simp [results, Tryz.results90, go_sem, c0, c1, c2]) rfl ⟨rfl, (hx1.ret _).2⟩
attribute [local go_sem ↓] Go.wp_at_zero Go.wp_at_succ
def SumOf (p q : Rat) (k X Y D : Nat) : Prop := NB k X ∧ NB k Y ∧ NB k D ∧ 0 < D ∧ (qNeg p = qNeg q → p + q = mkRat (sg (qNeg p) (X + Y)) D) ∧
 (qNeg p ≠ qNeg q → X < Y → p + q = mkRat (sg (qNeg q) (Y - X)) D) ∧ (qNeg p ≠ qNeg q → Y ≤ X → p + q = mkRat (sg (qNeg p) (X - Y)) D)
theorem sumOf_ne {p q : Rat} {m n : Nat} (hp : qB m p) (hq : qB n q) : SumOf p q (m + n) (p.num.natAbs * q.den) (q.num.natAbs * p.den) (p.den * q.den) :=
 ⟨NB.mul hp.1 hq.2, by rw [Nat.add_comm]; exact NB.mul hq.1 hp.2, NB.mul hp.2 hq.2, Nat.mul_pos p.den_pos q.den_pos, fun h => qadd_same h, fun h => qadd_lt h, fun h => qadd_ge h⟩
theorem sumOf_eq {p q : Rat} {m n : Nat} (hp : qB m p) (hq : qB n q) (h : p.den = q.den) : SumOf p q (m + n) p.num.natAbs q.num.natAbs p.den :=
 ⟨NB.mono hp.1 (by omega), NB.mono hq.1 (by omega), NB.mono hp.2 (by omega), p.den_pos, fun e => qadd_same' h e, fun e => qadd_lt' h e, fun e => qadd_ge' h e⟩
theorem NB.size {k n : Nat} (h : NB k n) : (natStr n).size ≤ k := by rw [natStr_size]; exact natBytes_len_le h
theorem Bx3.drewN {w w1 : World} {r1 r2 : GRat} (h : Bx3 w w1 r1 r2) (n : Nat) : Bx3 w (w1.drewN n) r1 r2 := ⟨h.1, h.2.1, h.2.2.1, h.2.2.2.drewN n⟩
set_option maxRecDepth 100000 in
set_option maxHeartbeats 2000000 in
theorem qadd_any (p q : Rat) (m n : Nat) (w : World) (hp : qB m p) (hq : qB n q) (hm : m ≤ 100000000000) (hn : n ≤ 100000000000) :
  Calls Tryz.prog 77 #[vRat (enc p), vRat (enc q)] w fun e w' => e = .returned (vRat (enc (p + q))) ∧ Below w.heap.size w w' := by
 have DA := hid (fun w => qden_enc p w)
 have DB := hid (fun w => qden_enc q w)
 have an : (enc p).num = natStr p.num.natAbs := rfl
 have bn : (enc q).num = natStr q.num.natAbs := rfl
 have s1 : (natStr p.num.natAbs).size ≤ m := NB.size hp.1
 have s2 : (natStr q.num.natAbs).size ≤ n := NB.size hq.1
 have s3 : (natStr p.den).size ≤ m := NB.size hp.2
 have s4 : (natStr q.den).size ≤ n := NB.size hq.2
 have M1 := hid (fun w => Multiply_any (enc p).num (natStr q.den) w (by rw [an]; omega) (by omega))
 have M2 := hid (fun w => Multiply_any (enc q).num (natStr p.den) w (by rw [bn]; omega) (by omega))
 have M3 := hid (fun w => Multiply_any (natStr p.den) (natStr q.den) w (by omega) (by omega))
 simp only [an, bn, strVal_natStr] at M1 M2 M3
 simp only [← an, ← bn] at M1 M2 M3
 have HNe := hid (sumOf_ne hp hq)
 have HEq := hid (fun h => sumOf_eq hp hq h)
 have hde : p.den = q.den → (enc p).den = (enc q).den := fun h => by unfold enc; simp only [h]
 have hdn : p.den ≠ q.den → (enc p).den ≠ (enc q).den := fun h e => h (by have a1 := enc_den p; have a2 := enc_den q; unfold gDen at a1 a2; rw [e] at a1; omega)
 have HDE := hid hde
 have HDN := hid (fun h => str_ne (hdn h))
 have AN := hid an
 have BN := hid bn
 have hx0 := hid (Bx3.new w (enc p) (enc q))
 have en1 : (enc p).neg = qNeg p := rfl
 have en2 : (enc q).neg = qNeg q := rfl
 have EN1 := hid en1
 have EN2 := hid en2
 obtain ⟨k, hk⟩ : ∃ k, k = m + n := ⟨_, rfl⟩
 have hkb : k ≤ 200000000000 := by omega
 rw [← hk] at HNe
 simp only [← hk] at HEq
 obtain ⟨c, hc⟩ : ∃ c, c = enc (p + q) := ⟨_, rfl⟩
 rw [← hc]
 have HC := hid hc
 generalize enc p = a at *
 generalize enc q = b at *
 unfold vRat at DA DB
 unfold vRat
 clear hp hq an bn s1 s2 s3 s4 hde hdn hc hk en1 en2 hm hn
 go_enter Tryz.func77, Tryz.ntmps77
 go_upto_region 1 with fail
 go_cut [5, 6, 7] (fun s5 s6 s7 wx => s5 = .string a.num ∧ s6 = .string b.num ∧ s7 = .string { data := #[1] } ∧ Bx3 w wx a b)
 case first =>
  go_quiet (fail)
  go_wp2
  go_meet
  case rel => exact ⟨rfl, rfl, rfl, Bx3.drewN hx0.out _⟩
 case rest =>
 obtain ⟨rfl, rfl, rfl, hx⟩ := hcut
 obtain ⟨z0, z1, z2, z3, z4⟩ := hx.1.facts
 obtain ⟨y0, y1, y2, y3, y4⟩ := hx.2.1.facts
 go_upto_region 2 with fail
 go_cut [20] (fun s20 wx => s20 = .bool (decide (p.den ≠ q.den)) ∧ wc = wx)
 case first =>
  by_cases hd : p.den = q.den
  ·have e1 : (a.den.toList == b.den.toList) = true := by rw [HDE.out hd]; simp
   go_wp2
   go_meet
   case rel => exact ⟨congrArg Value.bool (by simp [hd, e1]), rfl⟩
  have e1 := HDN.out hd
  go_wp2
  go_meet
  case rel => exact ⟨congrArg Value.bool (by simp [hd, e1]), rfl⟩
 case rest =>
 obtain ⟨rfl, rfl⟩ := hcut
 go_upto_if 20 with fail
 go_cut [5, 6, 7] (fun s5 s6 s7 wx => ∃ X Y D, s5 = .string (natStr X) ∧ s6 = .string (natStr Y) ∧ s7 = .string (natStr D) ∧ Hid (SumOf p q k X Y D) ∧ Bx3 w wx a b)
 case first =>
  by_cases hd : p.den ≠ q.den
  rotate_left
  ·have HDD := hid (Decidable.not_not.1 hd)
   go_wp2_with fail
   refine Calls.mono (DA.out _) ?_
   rintro e w1 ⟨rfl, hb1⟩
   go_wp2
   go_meet
   case rel => exact ⟨p.num.natAbs, q.num.natAbs, p.den, by rw [AN.out], by rw [BN.out], rfl, HEq.out HDD.out, hx.next hb1⟩
  go_wp2_with fail
  go_region_held3 (fun w' => w'.cell? ⟨w.heap.size, 0, none⟩ = some (.bool a.neg) ∧ w'.cell? ⟨w.heap.size, 1, none⟩ = some (.string a.num) ∧ w'.cell? ⟨w.heap.size, 2, none⟩ = some (.string a.den) ∧ w'.cell? ⟨w.heap.size + 1, 0, none⟩ = some (.bool b.neg) ∧ w'.cell? ⟨w.heap.size + 1, 1, none⟩ = some (.string b.num) ∧ w'.cell? ⟨w.heap.size + 1, 2, none⟩ = some (.string b.den)) (go_keep)
   (first
    | (go_at_call_of 86 (Value.agg #[.bool a.neg, .string a.num, .string a.den]); refine Calls.mono (DA.out _) ?_; rintro e wn ⟨rfl, hbn⟩; (first | replace hx := Bx3.next hx hbn | replace hx := Bx3.next (Bx3.drew hx) hbn); clear z0 z1 z2 z3 z4 y0 y1 y2 y3 y4; obtain ⟨z0, z1, z2, z3, z4⟩ := hx.1.facts; obtain ⟨y0, y1, y2, y3, y4⟩ := hx.2.1.facts)
    | (go_at_call_of 86 (Value.agg #[.bool b.neg, .string b.num, .string b.den]); refine Calls.mono (DB.out _) ?_; rintro e wn ⟨rfl, hbn⟩; (first | replace hx := Bx3.next hx hbn | replace hx := Bx3.next (Bx3.drew hx) hbn); clear z0 z1 z2 z3 z4 y0 y1 y2 y3 y4; obtain ⟨z0, z1, z2, z3, z4⟩ := hx.1.facts; obtain ⟨y0, y1, y2, y3, y4⟩ := hx.2.1.facts)
    | (go_at_call_of 85 (Value.string a.num); refine Calls.mono (M1.out _) ?_; rintro e wn ⟨rfl, hbn⟩; (first | replace hx := Bx3.next hx hbn | replace hx := Bx3.next (Bx3.drew hx) hbn); clear z0 z1 z2 z3 z4 y0 y1 y2 y3 y4; obtain ⟨z0, z1, z2, z3, z4⟩ := hx.1.facts; obtain ⟨y0, y1, y2, y3, y4⟩ := hx.2.1.facts)
    | (go_at_call_of 85 (Value.string b.num); refine Calls.mono (M2.out _) ?_; rintro e wn ⟨rfl, hbn⟩; (first | replace hx := Bx3.next hx hbn | replace hx := Bx3.next (Bx3.drew hx) hbn); clear z0 z1 z2 z3 z4 y0 y1 y2 y3 y4; obtain ⟨z0, z1, z2, z3, z4⟩ := hx.1.facts; obtain ⟨y0, y1, y2, y3, y4⟩ := hx.2.1.facts))
  go_wp2_with fail
  go_region_held3 (fun w' => w'.cell? ⟨w.heap.size, 0, none⟩ = some (.bool a.neg) ∧ w'.cell? ⟨w.heap.size, 1, none⟩ = some (.string a.num) ∧ w'.cell? ⟨w.heap.size, 2, none⟩ = some (.string a.den) ∧ w'.cell? ⟨w.heap.size + 1, 0, none⟩ = some (.bool b.neg) ∧ w'.cell? ⟨w.heap.size + 1, 1, none⟩ = some (.string b.num) ∧ w'.cell? ⟨w.heap.size + 1, 2, none⟩ = some (.string b.den)) (go_keep)
   (first
    | (go_at_call_of 86 (Value.agg #[.bool a.neg, .string a.num, .string a.den]); refine Calls.mono (DA.out _) ?_; rintro e wn ⟨rfl, hbn⟩; (first | replace hx := Bx3.next hx hbn | replace hx := Bx3.next (Bx3.drew hx) hbn); clear z0 z1 z2 z3 z4 y0 y1 y2 y3 y4; obtain ⟨z0, z1, z2, z3, z4⟩ := hx.1.facts; obtain ⟨y0, y1, y2, y3, y4⟩ := hx.2.1.facts)
    | (go_at_call_of 86 (Value.agg #[.bool b.neg, .string b.num, .string b.den]); refine Calls.mono (DB.out _) ?_; rintro e wn ⟨rfl, hbn⟩; (first | replace hx := Bx3.next hx hbn | replace hx := Bx3.next (Bx3.drew hx) hbn); clear z0 z1 z2 z3 z4 y0 y1 y2 y3 y4; obtain ⟨z0, z1, z2, z3, z4⟩ := hx.1.facts; obtain ⟨y0, y1, y2, y3, y4⟩ := hx.2.1.facts)
    | (go_at_call_of 85 (Value.string (natStr p.den)); refine Calls.mono (M3.out _) ?_; rintro e wn ⟨rfl, hbn⟩; (first | replace hx := Bx3.next hx hbn | replace hx := Bx3.next (Bx3.drew hx) hbn); clear z0 z1 z2 z3 z4 y0 y1 y2 y3 y4; obtain ⟨z0, z1, z2, z3, z4⟩ := hx.1.facts; obtain ⟨y0, y1, y2, y3, y4⟩ := hx.2.1.facts))
  go_wp2
  go_meet
  case rel => exact ⟨_, _, _, rfl, rfl, rfl, HNe, hx⟩
 case rest =>
  clear z0 z1 z2 z3 z4 y0 y1 y2 y3 y4 hx
  obtain ⟨X, Y, D, rfl, rfl, rfl, HS, hx⟩ := hcut
  obtain ⟨z0, z1, z2, z3, z4⟩ := hx.1.facts
  obtain ⟨y0, y1, y2, y3, y4⟩ := hx.2.1.facts
  obtain ⟨nx, ny, nd, hD0, f1, f2, f3⟩ := HS.out
  have sx := nx.size
  have sy := ny.size
  have sd := nd.size
  by_cases hs : qNeg p = qNeg q
  ·have e : (a.neg == b.neg) = true := by rw [EN1.out, EN2.out, hs]; simp
   have hE := f1 hs
   have hxy : (natStr (X + Y)).size ≤ 400000000000 := Nat.le_trans (nx.add ny).size (by omega)
   have A1 := hid (fun w => add_any (natStr X) (natStr Y) w (by omega) (by omega))
   have R1 := hid (fun w => qreduced_any (qNeg p) (natStr (X + Y)) (natStr D) w hxy (by omega) (by rw [strVal_natStr]; exact hD0))
   simp only [strVal_natStr] at A1 R1
   rw [← hE, ← HC.out, ← EN1.out] at R1
   clear hs hE f1 f2 f3 nx ny nd sx sy sd hD0 hxy HS
   go_wp2_with fail
   go_region_with (first
    | (go_at_call 124; refine Calls.mono (A1.out _) ?_; rintro e wn ⟨rfl, hbn⟩; replace hx := Bx3.next (Bx3.drew hx) hbn; clear z0 z1 z2 z3 z4 y0 y1 y2 y3 y4; obtain ⟨z0, z1, z2, z3, z4⟩ := hx.1.facts)
    | (go_at_call 88; refine Calls.mono (R1.out _) ?_; rintro e wm ⟨rfl, hbm⟩; unfold vRat; replace hx := Bx3.next hx hbm; obtain ⟨t0, t1, t2, t3, t4⟩ := hx.2.2.1.facts))
   all_goals (go_wp2; refine ret_blk3 (hx.ret c).1 (fun W' c0 c1 c2 => by simp [results, Tryz.results77, go_sem, c0, c1, c2]) rfl ⟨rfl, (hx.ret c).2⟩)
  have e : (a.neg == b.neg) = false := by rw [EN1.out, EN2.out]; simp [hs]
  by_cases hl : X < Y
  ·have hE := f2 hs hl
   have A1 := hid (fun w => Subtract_no (natStr X) (natStr Y) w (by omega) (by omega) (by rw [strVal_natStr, strVal_natStr]; exact hl))
   have A2 := hid (fun w => Subtract_ok (natStr Y) (natStr X) w (by omega) (by omega) (by rw [strVal_natStr, strVal_natStr]; omega))
   have hxy : (natStr (Y - X)).size ≤ 400000000000 := Nat.le_trans (ny.le (Nat.sub_le _ _)).size (by omega)
   have R1 := hid (fun w => qreduced_any (qNeg q) (natStr (Y - X)) (natStr D) w hxy (by omega) (by rw [strVal_natStr]; exact hD0))
   simp only [strVal_natStr] at A1 A2 R1
   rw [← hE, ← HC.out, ← EN2.out] at R1
   clear hs hE f1 f2 f3 nx ny nd sx sy sd hD0 hxy HS hl
   go_wp2_with fail
   refine Calls.mono (A1.out _) ?_
   rintro e8 w8 ⟨rfl, hb8⟩
   replace hx := Bx3.next hx hb8
   go_wp2_with fail
   refine Calls.mono (A2.out _) ?_
   rintro e9 w9 ⟨rfl, hb9⟩
   replace hx := Bx3.next hx hb9
   clear z0 z1 z2 z3 z4 y0 y1 y2 y3 y4
   obtain ⟨y0, y1, y2, y3, y4⟩ := hx.2.1.facts
   go_wp2_with fail
   refine Calls.mono (R1.out _) ?_
   rintro ea wa ⟨rfl, hba⟩
   unfold vRat
   replace hx := Bx3.next hx hba
   obtain ⟨t0, t1, t2, t3, t4⟩ := hx.2.2.1.facts
   go_wp2
   refine ret_blk3 (hx.ret c).1 (fun W' c0 c1 c2 => by simp [results, Tryz.results77, go_sem, c0, c1, c2]) rfl ⟨rfl, (hx.ret c).2⟩
  have hE := f3 hs (Nat.le_of_not_lt hl)
  have A1 := hid (fun w => Subtract_ok (natStr X) (natStr Y) w (by omega) (by omega) (by rw [strVal_natStr, strVal_natStr]; omega))
  have hxy : (natStr (X - Y)).size ≤ 400000000000 := Nat.le_trans (nx.le (Nat.sub_le _ _)).size (by omega)
  have R1 := hid (fun w => qreduced_any (qNeg p) (natStr (X - Y)) (natStr D) w hxy (by omega) (by rw [strVal_natStr]; exact hD0))
  simp only [strVal_natStr] at A1 R1
  rw [← hE, ← HC.out, ← EN1.out] at R1
  clear hs hE f1 f2 f3 nx ny nd sx sy sd hD0 hxy HS hl
  go_wp2_with fail
  refine Calls.mono (A1.out _) ?_
  rintro e8 w8 ⟨rfl, hb8⟩
  replace hx := Bx3.next hx hb8
  clear z0 z1 z2 z3 z4 y0 y1 y2 y3 y4
  obtain ⟨z0, z1, z2, z3, z4⟩ := hx.1.facts
  go_wp2_with fail
  refine Calls.mono (R1.out _) ?_
  rintro ea wa ⟨rfl, hba⟩
  unfold vRat
  replace hx := Bx3.next hx hba
  obtain ⟨t0, t1, t2, t3, t4⟩ := hx.2.2.1.facts
  go_wp2
  refine ret_blk3 (hx.ret c).1 (fun W' c0 c1 c2 => by simp [results, Tryz.results77, go_sem, c0, c1, c2]) rfl ⟨rfl, (hx.ret c).2⟩
attribute [local go_sem ↓] Go.wp_at_zero Go.wp_at_succ
def sB (m : Nat) (r : GRat) : Prop := r.num.size ≤ m ∧ r.den.size ≤ m
theorem sB.qB {m : Nat} {r : GRat} (h : sB m r) (hm : 0 < m) : qB m (qOf r) := qB_qOf hm h.1 h.2
theorem sB_enc {m : Nat} {q : Rat} (h : Go.Proofs.YtokmkopihhnggaaGreatDoor.qB m q) : sB m (enc q) := enc_size h
theorem sB.mono {m n : Nat} {r : GRat} (h : sB m r) (hm : m ≤ n) : sB n r := ⟨Nat.le_trans h.1 hm, Nat.le_trans h.2 hm⟩
set_option maxRecDepth 100000 in
set_option maxHeartbeats 1000000 in
theorem qAdd_any (r1 r2 : GRat) (m n : Nat) (w : World) (h1 : sB m r1) (h2 : sB n r2) (hm : m ≤ 100000000000) (hn : n ≤ 100000000000) (hm0 : 0 < m) (hn0 : 0 < n) :
  Calls Tryz.prog 31 #[vRat r1, vRat r2] w fun e w' => e = .returned (vRat (enc (qOf r1 + qOf r2))) ∧ Below w.heap.size w w' := by
 have C1 := hid (fun w => qclean_any r1 w (by have := h1.1; omega) (by have := h1.2; omega))
 have C2 := hid (fun w => qclean_any r2 w (by have := h2.1; omega) (by have := h2.2; omega))
 have A := hid (fun w => qadd_any (qOf r1) (qOf r2) m n w (h1.qB hm0) (h2.qB hn0) hm hn)
 have hx := (Bx3.new w r1 r2).drew
 obtain ⟨z0, z1, z2, z3, z4⟩ := hx.1.facts
 clear z0 z1 z2 z3 z4
 generalize enc (qOf r1 + qOf r2) = c at *
 generalize enc (qOf r1) = a at *
 generalize enc (qOf r2) = b at *
 have HX := hid hx
 clear hx h1 h2 hm hn hm0 hn0
 unfold vRat at C1 C2 A
 unfold vRat
 go_enter Tryz.func31, Tryz.ntmps31
 go_wp2_with fail
 go_region_with (first
  | (go_at_call_of 78 (Value.agg #[.bool r1.neg, .string r1.num, .string r1.den]); refine Calls.mono (C1.out _) ?_; rintro e w1 ⟨rfl, hb1⟩; have hx1 := Bx3.next HX.out hb1; obtain ⟨y0, y1, y2, y3, y4⟩ := hx1.2.1.facts)
  | (go_at_call_of 78 (Value.agg #[.bool r2.neg, .string r2.num, .string r2.den]); refine Calls.mono (C2.out _) ?_; rintro e w2 ⟨rfl, hb2⟩; have hx2 := Bx3.next hx1 hb2)
  | (go_at_call 77; refine Calls.mono (A.out _) ?_; rintro e w3 ⟨rfl, hb3⟩; have hx3 := Bx3.next hx2 hb3; obtain ⟨t0, t1, t2, t3, t4⟩ := hx3.2.2.1.facts))
 all_goals (go_wp2; refine ret_blk3 (hx3.ret c).1 (fun W' c0 c1 c2 => by simp [results, Tryz.results31, go_sem, c0, c1, c2]) rfl ⟨rfl, (hx3.ret c).2⟩)
attribute [local go_sem ↓] Go.wp_at_zero Go.wp_at_succ
abbrev put3 (w : World) (b : Nat) (a : GRat) : World := ((w.setCell ⟨b, 0, none⟩ (.bool a.neg)).setCell ⟨b, 1, none⟩ (.string a.num)).setCell ⟨b, 2, none⟩ (.string a.den)
theorem Bx.put {w : World} {b : Nat} {r : GRat} (h : Bx w b r) (a : GRat) : Bx (put3 w b a) b a := (Blk3.stored h _ _ _).2.2.2
theorem Bx.other {w : World} {b b' : Nat} {r : GRat} (h : Bx w b r) (hne : b' ≠ b) (a : GRat) : Bx (put3 w b' a) b r := ((Blk3.other h hne _ _).other hne _ _).other hne _ _
theorem below_put {w w1 : World} {b : Nat} (h : Below w.heap.size w w1) (hb : w.heap.size ≤ b) (a : GRat) : Below w.heap.size w (put3 w1 b a) := ((h.setCell hb _).setCell hb _).setCell hb _
attribute [local go_sem ↓] Go.wp_at_zero Go.wp_at_succ
end Go.Proofs.YtokmkopihhnggaaGreatDoor
