/- insolvencyref1: Plus: walked. -/
import Derived.Test.YtmbahnmhicdjfaaGreatDoorQ1M
import Derived.Deep.QuietTactic
import Derived.BigQuiet
import Derived.Test.YtmbahnmhicdjfaaGreatDoorShelfM
import Derived.Test.YtmbahnmhicdjfaaGreatDoorNat5M
set_option linter.unusedVariables false
set_option linter.unusedSimpArgs false
set_option linter.defProp false
set_option linter.unnecessarySimpa false
section
/- insolvencyref1: Plus: walked. -/
namespace Go.Proofs.YtmbahnmhicdjfaaGreatDoor
open Go.RowKit
attribute [local go_sem ↓] Go.wp_at_zero Go.wp_at_succ
end Go.Proofs.YtmbahnmhicdjfaaGreatDoor
end
section
/- Refunds, rates and what is kept, over rational numbers: plain. -/
namespace Go.Proofs.YtmbahnmhicdjfaaGreatDoor
def qmin (a b : Rat) : Rat := if b < a then b else a
def NonNeg (l : List Rat) : Prop := ∀ x ∈ l, 0 ≤ x
theorem NonNeg.get {l : List Rat} (h : NonNeg l) (k : Nat) : 0 ≤ l.getD k 0 := by
  rcases Nat.lt_or_ge k l.length with h1 | h1
  · simp only [List.getD, List.getElem?_eq_getElem h1, Option.getD_some]
    exact h _ (List.getElem_mem h1)
  simp [List.getD, List.getElem?_eq_none h1]
end Go.Proofs.YtmbahnmhicdjfaaGreatDoor
end
section
/- Refunds grow with the rates; amounts of the laws: plain. -/
namespace Go.Proofs.YtmbahnmhicdjfaaGreatDoor
end Go.Proofs.YtmbahnmhicdjfaaGreatDoor
end
section
/- insolvencyref1: Minus, Less, Lesser, Greater: walked. -/
namespace Go.Proofs.YtmbahnmhicdjfaaGreatDoor
open Go.RowKit
attribute [local go_sem ↓] Go.wp_at_zero Go.wp_at_succ
theorem gOpp_enc (q : Rat) : gOpp (enc q) = enc (-q) := enc_opp q
theorem sgnZ_enc (q : Rat) : sgnZ (enc q) = qSgn q := gSgn_enc q
def qmax (a b : Rat) : Rat := if a < b then b else a
theorem qCmp_neg_iff (p q : Rat) : qCmp p q < 0 ↔ p < q := by unfold qCmp; grind
end Go.Proofs.YtmbahnmhicdjfaaGreatDoor
end
section
/- rational: Valid: walked. -/
namespace Go.Proofs.YtmbahnmhicdjfaaGreatDoor
open Go.RowKit
theorem natStr_one : natStr 1 = { data := #[1] } := by
  unfold natStr; rw [natBytes_pos (by decide)]; simp [natBytes_zero]
theorem str_ne {s t : ByteArray} (h : s ≠ t) : (s.toList == t.toList) = false := by
  rw [beq_eq_false_iff_ne]
  intro e
  rw [ByteArray.toList_eq, ByteArray.toList_eq] at e
  exact h (ByteArray.ext (Array.ext' e))
theorem str_ne1 {s : ByteArray} (h : s ≠ { data := #[1] }) : (s.toList == [1]) = false := by
  rw [beq_eq_false_iff_ne]
  intro e
  rw [ByteArray.toList_eq] at e
  exact h (ByteArray.ext (Array.ext' e))
theorem gValid_1 {r : GRat} (c1 : natStr (strVal r.num) ≠ r.num) : gValid r = false := by simp [gValid, c1]
theorem gValid_2 {r : GRat} (c2 : natStr (strVal r.den) ≠ r.den) : gValid r = false := by simp [gValid, c2]
theorem gValid_3 {r : GRat} (c1 : natStr (strVal r.num) = r.num) (c2 : natStr (strVal r.den) = r.den) (h : r.num.size = 0) : gValid r = (!r.neg && decide (r.den.size = 0)) := by simp [gValid, c1, c2, h]
theorem gValid_4 {r : GRat} (c1 : natStr (strVal r.num) = r.num) (c2 : natStr (strVal r.den) = r.den) (h : ¬ r.num.size = 0) : gValid r = (decide (r.den.size = 0) || (decide (strVal r.den ≠ 1) && decide (Nat.gcd (strVal r.num) (strVal r.den) = 1))) := by simp [gValid, c1, c2, h]
theorem qValid_1 (r : GRat) (w : World) (h1 : r.num.size ≤ 500000000000) (c1 : natStr (strVal r.num) ≠ r.num) :
    Calls Tryz.prog 139 #[vRat r] w fun e w' => e = .returned (.bool false) ∧ Below w.heap.size w w' := by
  have N1 := hid (fun w => normalize_any r.num w (by unfold maxLen; omega))
  obtain ⟨neg, num, den⟩ := r
  simp only at *
  generalize natStr (strVal num) = s at *
  have e1 := str_ne c1
  unfold vRat
  simp only
  clear c1
  go_enter Tryz.func139, Tryz.ntmps139
  go_wp2
  go_quiet ((go_at_call 140; exact Calls.quiet_of_same ((N1.out _).mono fun e w' h => ⟨h.1, h.2.symm⟩)))
  go_wp2
  go_ret
  exact ⟨rfl, Below.drewN ((Below.refl _ _).alloc (Nat.le_refl _) _) _⟩
theorem qValid_2 (r : GRat) (w : World) (h1 : r.num.size ≤ 500000000000) (h2 : r.den.size ≤ 500000000000) (c1 : natStr (strVal r.num) = r.num) (c2 : natStr (strVal r.den) ≠ r.den) :
    Calls Tryz.prog 139 #[vRat r] w fun e w' => e = .returned (.bool false) ∧ Below w.heap.size w w' := by
  have N1 := hid (fun w => normalize_any r.num w (by unfold maxLen; omega))
  have N2 := hid (fun w => normalize_any r.den w (by unfold maxLen; omega))
  rw [c1] at N1
  obtain ⟨neg, num, den⟩ := r
  simp only at *
  generalize natStr (strVal den) = s at *
  have e1 := str_ne c2
  unfold vRat
  simp only
  clear c1 c2
  go_enter Tryz.func139, Tryz.ntmps139
  go_wp2
  go_quiet ((first
    | (go_at_call_of 140 (Value.string num); exact Calls.quiet_of_same ((N1.out _).mono fun e w' h => ⟨h.1, h.2.symm⟩))
    | (go_at_call_of 140 (Value.string den); exact Calls.quiet_of_same ((N2.out _).mono fun e w' h => ⟨h.1, h.2.symm⟩))))
  go_wp2
  go_ret
  exact ⟨rfl, Below.drewN ((Below.refl _ _).alloc (Nat.le_refl _) _) _⟩
theorem qValid_3 (r : GRat) (w : World) (h1 : r.num.size ≤ 500000000000) (h2 : r.den.size ≤ 500000000000) (c1 : natStr (strVal r.num) = r.num) (c2 : natStr (strVal r.den) = r.den) (h : r.num.size = 0) :
    Calls Tryz.prog 139 #[vRat r] w fun e w' => e = .returned (.bool (!r.neg && decide (r.den.size = 0))) ∧ Below w.heap.size w w' := by
  have N1 := hid (fun w => normalize_any r.num w (by unfold maxLen; omega))
  have N2 := hid (fun w => normalize_any r.den w (by unfold maxLen; omega))
  rw [c1] at N1
  rw [c2] at N2
  obtain ⟨neg, num, den⟩ := r
  simp only at *
  have hz : num = { data := #[] } := ByteArray.ext (Array.eq_empty_of_size_eq_zero h)
  subst hz
  unfold vRat
  simp only
  clear c1 c2 h h1
  cases neg
  · by_cases hd : den.size = 0
    · have hz : den = { data := #[] } := ByteArray.ext (Array.eq_empty_of_size_eq_zero hd)
      subst hz
      clear hd h2
      go_enter Tryz.func139, Tryz.ntmps139
      go_wp2
      go_quiet ((go_at_call 140; exact Calls.quiet_of_same ((N1.out _).mono fun e w' h => ⟨h.1, h.2.symm⟩)))
      go_wp2
      go_ret
      exact ⟨rfl, Below.drewN ((Below.refl _ _).alloc (Nat.le_refl _) _) _⟩
    have hne := num_ne hd
    have HR := hid (show (!false && decide (den.size = 0)) = false by simp [hd])
    rw [HR.out]
    clear hd h2
    go_enter Tryz.func139, Tryz.ntmps139
    go_wp2
    go_quiet ((first
      | (go_at_call_of 140 (Value.string { data := #[] }); exact Calls.quiet_of_same ((N1.out _).mono fun e w' h => ⟨h.1, h.2.symm⟩))
      | (go_at_call_of 140 (Value.string den); exact Calls.quiet_of_same ((N2.out _).mono fun e w' h => ⟨h.1, h.2.symm⟩))))
    go_wp2
    go_ret
    exact ⟨rfl, Below.drewN ((Below.refl _ _).alloc (Nat.le_refl _) _) _⟩
  have HR := hid (show (!true && decide (den.size = 0)) = false by simp)
  rw [HR.out]
  clear h2
  go_enter Tryz.func139, Tryz.ntmps139
  go_wp2
  go_quiet ((first
    | (go_at_call_of 140 (Value.string { data := #[] }); exact Calls.quiet_of_same ((N1.out _).mono fun e w' h => ⟨h.1, h.2.symm⟩))
    | (go_at_call_of 140 (Value.string den); exact Calls.quiet_of_same ((N2.out _).mono fun e w' h => ⟨h.1, h.2.symm⟩))))
  go_wp2
  go_ret
  exact ⟨rfl, Below.drewN ((Below.refl _ _).alloc (Nat.le_refl _) _) _⟩
end Go.Proofs.YtmbahnmhicdjfaaGreatDoor
end
section
/- natural: Compare: walked. -/
namespace Go.Proofs.YtmbahnmhicdjfaaGreatDoor
open Go.RowKit
theorem compareBytes_eq : ∀ (l r : List UInt8), l.length = r.length → Lib.compareBytes l r = natCmp (bytesVal l) (bytesVal r)
  | [], [], _ => by simp [Lib.compareBytes, natCmp, bytesVal]
  | [], _ :: _, h => by simp at h
  | _ :: _, [], h => by simp at h
  | a :: l, b :: r, h => by
    have hl : l.length = r.length := by simpa using h
    have ih := compareBytes_eq l r hl
    have h1 := bytesVal_lt l
    have h2 := bytesVal_lt r
    simp only [Lib.compareBytes]
    rw [ih, bytesVal_cons, bytesVal_cons, hl]
    rw [hl] at h1
    have ha : (a < b) ↔ a.toNat < b.toNat := UInt8.lt_iff_toNat_lt
    have hb : (b < a) ↔ b.toNat < a.toNat := UInt8.lt_iff_toNat_lt
    generalize 256 ^ r.length = P at *
    generalize bytesVal l = x at *
    generalize bytesVal r = y at *
    by_cases c1 : a.toNat < b.toNat
    · rw [if_pos (ha.2 c1)]
      have := Nat.mul_le_mul_right P (show a.toNat + 1 ≤ b.toNat from c1)
      rw [Nat.add_mul] at this
      unfold natCmp
      rw [if_pos (by omega)]
    rw [if_neg (fun h => c1 (ha.1 h))]
    by_cases c2 : b.toNat < a.toNat
    · rw [if_pos (hb.2 c2)]
      have := Nat.mul_le_mul_right P (show b.toNat + 1 ≤ a.toNat from c2)
      rw [Nat.add_mul] at this
      unfold natCmp
      rw [if_neg (by omega), if_pos (by omega)]
    rw [if_neg (fun h => c2 (hb.1 h))]
    have : a.toNat = b.toNat := by omega
    rw [this]
    generalize b.toNat * P = q
    unfold natCmp
    simp only [Nat.add_lt_add_iff_left]
theorem compare_natStr {x y : Nat} (h : (natStr x).size = (natStr y).size) : Lib.compareBytes (natStr x).data.toList (natStr y).data.toList = natCmp x y := by
  rw [natStr_size, natStr_size] at h
  have := compareBytes_eq (natBytes x) (natBytes y) h
  rw [bytesVal_natBytes, bytesVal_natBytes] at this
  simpa [natStr] using this
theorem natBytes_mono {x y : Nat} (h : x ≤ y) : (natBytes x).length ≤ (natBytes y).length := natBytes_len_le (Nat.lt_of_le_of_lt h (natBytes_lt y))
theorem sign_natStr {x y : Nat} (h : (natStr x).size ≠ (natStr y).size) : signZ (((natStr x).size : Int) - ((natStr y).size : Int)) = natCmp x y := by
  rw [natStr_size, natStr_size] at *
  unfold signZ natCmp
  by_cases c : x < y
  · have := natBytes_mono (Nat.le_of_lt c)
    rw [if_pos c, if_pos (by omega)]
  have := natBytes_mono (Nat.le_of_not_lt c)
  rw [if_neg c, if_neg (by omega)]
  by_cases d : y < x
  · rw [if_pos d]; try rw [if_pos (by omega)]
  exfalso
  have : x = y := by omega
  subst this
  exact h rfl
theorem natStr_strVal_size (s : ByteArray) : (natStr (strVal s)).size ≤ s.size := by rw [natStr_size]; exact natBytes_len_le (strVal_lt s)
set_option maxRecDepth 100000 in
theorem Compare_any (a b : ByteArray) (w : World) (ha : a.size ≤ maxLen) (hb : b.size ≤ maxLen) :
    Calls Tryz.prog 96 #[.string a, .string b] w fun e w' => e = .returned (.int .i64 (natCmp (strVal a) (strVal b))) ∧ w = w' := by
  have H1 := hid (normalize_any a w ha)
  have H2 := hid (normalize_any b w hb)
  have sa := natStr_strVal_size a
  have sb := natStr_strVal_size b
  have hmx : (maxLen : Nat) ≤ 9223372036854775807 := by unfold maxLen; omega
  have hsa : (natStr (strVal a)).size ≤ 9223372036854775807 := by omega
  have hsb : (natStr (strVal b)).size ≤ 9223372036854775807 := by omega
  by_cases h : (natStr (strVal a)).size = (natStr (strVal b)).size
  · have HC := hid (Tryz.strings_Compare (natStr (strVal a)) (natStr (strVal b)) w)
    rw [compare_natStr h] at HC
    generalize natCmp (strVal a) (strVal b) = c at *
    generalize natStr (strVal a) = x at *
    generalize natStr (strVal b) = y at *
    have hxy : ¬ ((x.size : Int) ≠ (y.size : Int)) := by omega
    clear sa sb ha hb hmx
    go_enter Tryz.func96, Tryz.ntmps96
    go_wp2_with fail
    refine Calls.mono H1.out ?_
    rintro e w1 ⟨rfl, rfl⟩
    go_wp2_with fail
    refine Calls.mono H2.out ?_
    rintro e w1 ⟨rfl, rfl⟩
    go_wp2_with fail
    refine Calls.mono HC.out ?_
    rintro e w1 ⟨rfl, rfl⟩
    go_wp2
    go_ret
    exact ⟨rfl, rfl⟩
  have HC := hid (sign_any (((natStr (strVal a)).size : Int) - ((natStr (strVal b)).size : Int)) w)
  rw [sign_natStr h] at HC
  generalize natCmp (strVal a) (strVal b) = c at *
  generalize natStr (strVal a) = x at *
  generalize natStr (strVal b) = y at *
  have hxy : ((x.size : Int) ≠ (y.size : Int)) := by omega
  clear sa sb ha hb hmx h
  go_enter Tryz.func96, Tryz.ntmps96
  go_wp2_with fail
  refine Calls.mono H1.out ?_
  rintro e w1 ⟨rfl, rfl⟩
  go_wp2_with fail
  refine Calls.mono H2.out ?_
  rintro e w1 ⟨rfl, rfl⟩
  go_wp2_with fail
  refine Calls.mono HC.out ?_
  rintro e w1 ⟨rfl, rfl⟩
  go_wp2
  go_ret
  exact ⟨rfl, rfl⟩
end Go.Proofs.YtmbahnmhicdjfaaGreatDoor
end
section
/- rational: Valid, clean: walked. -/
namespace Go.Proofs.YtmbahnmhicdjfaaGreatDoor
open Go.RowKit
theorem natStr_ne1 {n : Nat} (h : n ≠ 1) : natStr n ≠ { data := #[1] } := by
  intro e; rw [← natStr_one] at e; exact h (natStr_inj e)
theorem qValid_4 (r : GRat) (w : World) (h1 : r.num.size ≤ 500000000000) (h2 : r.den.size ≤ 500000000000) (c1 : natStr (strVal r.num) = r.num) (c2 : natStr (strVal r.den) = r.den) (h : ¬ r.num.size = 0) :
    Calls Tryz.prog 139 #[vRat r] w fun e w' => e = .returned (.bool (decide (r.den.size = 0) || (decide (strVal r.den ≠ 1) && decide (Nat.gcd (strVal r.num) (strVal r.den) = 1)))) ∧ Below w.heap.size w w' := by
  have N1 := hid (fun w => normalize_any r.num w (by unfold maxLen; omega))
  have N2 := hid (fun w => normalize_any r.den w (by unfold maxLen; omega))
  rw [c1] at N1
  rw [c2] at N2
  have G := hid (fun w => GCD_any r.num r.den w h1 h2)
  obtain ⟨neg, num, den⟩ := r
  simp only at *
  have hne := num_ne h
  unfold vRat
  simp only
  by_cases hd : den.size = 0
  · have hz : den = { data := #[] } := ByteArray.ext (Array.eq_empty_of_size_eq_zero hd)
    subst hz
    clear hd h2 c1 c2 h h1 G
    go_enter Tryz.func139, Tryz.ntmps139
    go_wp2
    go_quiet ((first
      | (go_at_call_of 140 (Value.string num); exact Calls.quiet_of_same ((N1.out _).mono fun e w' h => ⟨h.1, h.2.symm⟩))
      | (go_at_call_of 140 (Value.string { data := #[] }); exact Calls.quiet_of_same ((N2.out _).mono fun e w' h => ⟨h.1, h.2.symm⟩))))
    go_wp2
    go_ret
    exact ⟨rfl, Below.drewN ((Below.refl _ _).alloc (Nat.le_refl _) _) _⟩
  have hne2 := num_ne hd
  by_cases ho : strVal den = 1
  · rw [ho, natStr_one] at c2
    subst c2
    have HR := hid (show (decide (({ data := #[1] } : ByteArray).size = 0) || (decide (strVal { data := #[1] } ≠ 1) && decide (Nat.gcd (strVal num) (strVal { data := #[1] }) = 1))) = false by rw [ho]; simp only [ne_eq, not_true, decide_false, Bool.false_and, Bool.or_false]; exact decide_eq_false hd)
    rw [HR.out]
    clear hd h2 c1 h h1 G ho hne2
    go_enter Tryz.func139, Tryz.ntmps139
    go_wp2
    go_quiet ((first
      | (go_at_call_of 140 (Value.string num); exact Calls.quiet_of_same ((N1.out _).mono fun e w' h => ⟨h.1, h.2.symm⟩))
      | (go_at_call_of 140 (Value.string { data := #[1] }); exact Calls.quiet_of_same ((N2.out _).mono fun e w' h => ⟨h.1, h.2.symm⟩))))
    go_wp2
    go_ret
    exact ⟨rfl, Below.drewN ((Below.refl _ _).alloc (Nat.le_refl _) _) _⟩
  have hn1 := str_ne1 (s := den) (fun e => ho (by rw [e, ← natStr_one]; exact strVal_natStr 1))
  by_cases hg : Nat.gcd (strVal num) (strVal den) = 1
  · rw [hg, natStr_one] at G
    have HR := hid (show (decide (den.size = 0) || (decide (strVal den ≠ 1) && decide (Nat.gcd (strVal num) (strVal den) = 1))) = true by simp [ho, hg])
    rw [HR.out]
    clear hd h2 c1 c2 h h1 ho hg
    go_enter Tryz.func139, Tryz.ntmps139
    go_wp2
    go_quiet ((first
      | (go_at_call_of 140 (Value.string num); exact Calls.quiet_of_same ((N1.out _).mono fun e w' h => ⟨h.1, h.2.symm⟩))
      | (go_at_call_of 140 (Value.string den); exact Calls.quiet_of_same ((N2.out _).mono fun e w' h => ⟨h.1, h.2.symm⟩))))
    go_wp2_with fail
    refine Calls.mono (G.out _) ?_
    rintro e w1 ⟨rfl, hb1⟩
    go_wp2
    go_ret
    exact ⟨rfl, Below.step (Below.drewN ((Below.refl _ _).alloc (Nat.le_refl _) _) _) hb1⟩
  have hn3 := str_ne1 (natStr_ne1 hg)
  have HR := hid (show (decide (den.size = 0) || (decide (strVal den ≠ 1) && decide (Nat.gcd (strVal num) (strVal den) = 1))) = false by simp [hd, hg])
  rw [HR.out]
  generalize natStr (Nat.gcd (strVal num) (strVal den)) = gs at *
  clear hd h2 c1 c2 h h1 ho hg HR
  go_enter Tryz.func139, Tryz.ntmps139
  go_wp2
  go_quiet ((first
    | (go_at_call_of 140 (Value.string num); exact Calls.quiet_of_same ((N1.out _).mono fun e w' h => ⟨h.1, h.2.symm⟩))
    | (go_at_call_of 140 (Value.string den); exact Calls.quiet_of_same ((N2.out _).mono fun e w' h => ⟨h.1, h.2.symm⟩))))
  go_wp2_with fail
  refine Calls.mono (G.out _) ?_
  rintro e w1 ⟨rfl, hb1⟩
  go_wp2
  go_ret
  exact ⟨rfl, Below.step (Below.drewN ((Below.refl _ _).alloc (Nat.le_refl _) _) _) hb1⟩
theorem qValid_any (r : GRat) (w : World) (h1 : r.num.size ≤ 500000000000) (h2 : r.den.size ≤ 500000000000) :
    Calls Tryz.prog 139 #[vRat r] w fun e w' => e = .returned (.bool (gValid r)) ∧ Below w.heap.size w w' := by
  by_cases c1 : natStr (strVal r.num) = r.num
  · by_cases c2 : natStr (strVal r.den) = r.den
    · by_cases h : r.num.size = 0
      · rw [gValid_3 c1 c2 h]; exact qValid_3 r w h1 h2 c1 c2 h
      rw [gValid_4 c1 c2 h]; exact qValid_4 r w h1 h2 c1 c2 h
    rw [gValid_2 c2]; exact qValid_2 r w h1 h2 c1 c2
  rw [gValid_1 c1]; exact qValid_1 r w h1 c1
theorem qclean_any (r : GRat) (w : World) (h1 : r.num.size ≤ 500000000000) (h2 : r.den.size ≤ 500000000000) :
    Calls Tryz.prog 90 #[vRat r] w fun e w' => e = .returned (vRat (enc (qOf r))) ∧ Below w.heap.size w w' := by
  have V := hid (fun w => qValid_any r w h1 h2)
  have hx0 := hid (Bx2.new w r gZ)
  clear h1 h2
  by_cases h : gValid r = true
  · rw [qOf_ok h]
    rw [h] at V
    unfold vRat
    clear h
    go_enter Tryz.func90, Tryz.ntmps90
    go_wp2_with fail
    refine Calls.mono (V.out _) ?_
    rintro e w1 ⟨rfl, hb1⟩
    have hx1 := hx0.out.next hb1
    obtain ⟨x0, x1, x2, x3, x4⟩ := hx1.1.facts
    obtain ⟨t0, t1, t2, t3, t4⟩ := hx1.2.1.facts
    go_wp2
    refine ret_blk3 (hx1.ret _).1 (fun W' c0 c1 c2 => by simp [results, Tryz.results90, go_sem, c0, c1, c2]) rfl ⟨rfl, (hx1.ret _).2⟩
  have h' : gValid r = false := by simpa using h
  rw [qOf_bad h', ← gZ_enc]
  rw [h'] at V
  unfold vRat
  clear h h'
  go_enter Tryz.func90, Tryz.ntmps90
  go_wp2_with fail
  refine Calls.mono (V.out _) ?_
  rintro e w1 ⟨rfl, hb1⟩
  have hx1 := hx0.out.next hb1
  obtain ⟨t0, t1, t2, t3, t4⟩ := hx1.2.1.facts
  go_wp2
  refine ret_blk3 (hx1.ret gZ).1 (fun W' c0 c1 c2 => by simp [results, Tryz.results90, go_sem, c0, c1, c2]) rfl ⟨rfl, (hx1.ret gZ).2⟩
end Go.Proofs.YtmbahnmhicdjfaaGreatDoor
end
section
/- insolvencyref1: Valid, Fix: walked. -/
namespace Go.Proofs.YtmbahnmhicdjfaaGreatDoor
open Go.RowKit
theorem rValid_1 (r : GRat) (w : World) (h1 : r.num.size ≤ 500000000000) (c1 : natStr (strVal r.num) ≠ r.num) :
    Calls Tryz.prog 162 #[vRat r] w fun e w' => e = .returned (.bool false) ∧ Below w.heap.size w w' := by
  have N1 := hid (fun w => rNormalize_any r.num w (by unfold maxLen; omega))
  obtain ⟨neg, num, den⟩ := r
  simp only at *
  generalize natStr (strVal num) = s at *
  have e1 := str_ne c1
  unfold vRat
  simp only
  clear c1
  go_enter Tryz.func162, Tryz.ntmps162
  go_wp2
  go_quiet ((go_at_call 198; exact Calls.quiet_of_same ((N1.out _).mono fun e w' h => ⟨h.1, h.2.symm⟩)))
  go_wp2
  go_ret
  exact ⟨rfl, Below.drewN ((Below.refl _ _).alloc (Nat.le_refl _) _) _⟩
theorem rValid_2 (r : GRat) (w : World) (h1 : r.num.size ≤ 500000000000) (h2 : r.den.size ≤ 500000000000) (c1 : natStr (strVal r.num) = r.num) (c2 : natStr (strVal r.den) ≠ r.den) :
    Calls Tryz.prog 162 #[vRat r] w fun e w' => e = .returned (.bool false) ∧ Below w.heap.size w w' := by
  have N1 := hid (fun w => rNormalize_any r.num w (by unfold maxLen; omega))
  have N2 := hid (fun w => rNormalize_any r.den w (by unfold maxLen; omega))
  rw [c1] at N1
  obtain ⟨neg, num, den⟩ := r
  simp only at *
  generalize natStr (strVal den) = s at *
  have e1 := str_ne c2
  unfold vRat
  simp only
  clear c1 c2
  go_enter Tryz.func162, Tryz.ntmps162
  go_wp2
  go_quiet ((first
    | (go_at_call_of 198 (Value.string num); exact Calls.quiet_of_same ((N1.out _).mono fun e w' h => ⟨h.1, h.2.symm⟩))
    | (go_at_call_of 198 (Value.string den); exact Calls.quiet_of_same ((N2.out _).mono fun e w' h => ⟨h.1, h.2.symm⟩))))
  go_wp2
  go_ret
  exact ⟨rfl, Below.drewN ((Below.refl _ _).alloc (Nat.le_refl _) _) _⟩
theorem rValid_3 (r : GRat) (w : World) (h1 : r.num.size ≤ 500000000000) (h2 : r.den.size ≤ 500000000000) (c1 : natStr (strVal r.num) = r.num) (c2 : natStr (strVal r.den) = r.den) (h : r.num.size = 0) (ho : strVal r.den ≠ 1) :
    Calls Tryz.prog 162 #[vRat r] w fun e w' => e = .returned (.bool (!r.neg && decide (r.den.size = 0))) ∧ Below w.heap.size w w' := by
  have N1 := hid (fun w => rNormalize_any r.num w (by unfold maxLen; omega))
  have N2 := hid (fun w => rNormalize_any r.den w (by unfold maxLen; omega))
  rw [c1] at N1
  rw [c2] at N2
  obtain ⟨neg, num, den⟩ := r
  simp only at *
  have hz : num = { data := #[] } := ByteArray.ext (Array.eq_empty_of_size_eq_zero h)
  subst hz
  unfold vRat
  simp only
  clear c1 c2 h h1
  cases neg
  · by_cases hd : den.size = 0
    · have hz : den = { data := #[] } := ByteArray.ext (Array.eq_empty_of_size_eq_zero hd)
      subst hz
      clear hd h2 ho
      have hn1 : ((({ data := #[] } : ByteArray).toList) == [1]) = false := by rw [ByteArray.toList_eq]; rfl
      go_enter Tryz.func162, Tryz.ntmps162
      go_wp2
      go_quiet ((go_at_call 198; exact Calls.quiet_of_same ((N1.out _).mono fun e w' h => ⟨h.1, h.2.symm⟩)))
      go_wp2
      go_ret
      exact ⟨rfl, Below.drewN ((Below.refl _ _).alloc (Nat.le_refl _) _) _⟩
    have hne := num_ne hd
    have HR := hid (show (!false && decide (den.size = 0)) = false by simp [hd])
    rw [HR.out]
    have hn1 := str_ne1 (s := den) (fun e => ho (by rw [e, ← natStr_one]; exact strVal_natStr 1))
    clear hd h2 ho
    go_enter Tryz.func162, Tryz.ntmps162
    go_wp2
    go_quiet ((first
      | (go_at_call_of 198 (Value.string { data := #[] }); exact Calls.quiet_of_same ((N1.out _).mono fun e w' h => ⟨h.1, h.2.symm⟩))
      | (go_at_call_of 198 (Value.string den); exact Calls.quiet_of_same ((N2.out _).mono fun e w' h => ⟨h.1, h.2.symm⟩))))
    go_wp2
    go_ret
    exact ⟨rfl, Below.drewN ((Below.refl _ _).alloc (Nat.le_refl _) _) _⟩
  have HR := hid (show (!true && decide (den.size = 0)) = false by simp)
  rw [HR.out]
  have hn1 := str_ne1 (s := den) (fun e => ho (by rw [e, ← natStr_one]; exact strVal_natStr 1))
  clear h2 ho
  go_enter Tryz.func162, Tryz.ntmps162
  go_wp2
  go_quiet ((first
    | (go_at_call_of 198 (Value.string { data := #[] }); exact Calls.quiet_of_same ((N1.out _).mono fun e w' h => ⟨h.1, h.2.symm⟩))
    | (go_at_call_of 198 (Value.string den); exact Calls.quiet_of_same ((N2.out _).mono fun e w' h => ⟨h.1, h.2.symm⟩))))
  go_wp2
  go_ret
  exact ⟨rfl, Below.drewN ((Below.refl _ _).alloc (Nat.le_refl _) _) _⟩
theorem rValid_o (r : GRat) (w : World) (h1 : r.num.size ≤ 500000000000) (h2 : r.den.size ≤ 500000000000) (c1 : natStr (strVal r.num) = r.num) (c2 : natStr (strVal r.den) = r.den) (ho : strVal r.den = 1) :
    Calls Tryz.prog 162 #[vRat r] w fun e w' => e = .returned (.bool false) ∧ Below w.heap.size w w' := by
  have N1 := hid (fun w => rNormalize_any r.num w (by unfold maxLen; omega))
  have N2 := hid (fun w => rNormalize_any r.den w (by unfold maxLen; omega))
  rw [c1] at N1
  rw [c2] at N2
  obtain ⟨neg, num, den⟩ := r
  simp only at *
  rw [ho, natStr_one] at c2
  subst c2
  unfold vRat
  simp only
  clear c1 h1 h2 ho
  go_enter Tryz.func162, Tryz.ntmps162
  go_wp2
  go_quiet ((first
    | (go_at_call_of 198 (Value.string num); exact Calls.quiet_of_same ((N1.out _).mono fun e w' h => ⟨h.1, h.2.symm⟩))
    | (go_at_call_of 198 (Value.string { data := #[1] }); exact Calls.quiet_of_same ((N2.out _).mono fun e w' h => ⟨h.1, h.2.symm⟩))))
  go_wp2
  go_ret
  exact ⟨rfl, Below.drewN ((Below.refl _ _).alloc (Nat.le_refl _) _) _⟩
theorem rValid_4 (r : GRat) (w : World) (h1 : r.num.size ≤ 500000000000) (h2 : r.den.size ≤ 500000000000) (c1 : natStr (strVal r.num) = r.num) (c2 : natStr (strVal r.den) = r.den) (h : ¬ r.num.size = 0) (ho : strVal r.den ≠ 1) :
    Calls Tryz.prog 162 #[vRat r] w fun e w' => e = .returned (.bool (decide (r.den.size = 0) || (decide (strVal r.den ≠ 1) && decide (Nat.gcd (strVal r.num) (strVal r.den) = 1)))) ∧ Below w.heap.size w w' := by
  have N1 := hid (fun w => rNormalize_any r.num w (by unfold maxLen; omega))
  have N2 := hid (fun w => rNormalize_any r.den w (by unfold maxLen; omega))
  rw [c1] at N1
  rw [c2] at N2
  have G := hid (fun w => rGCD_any r.num r.den w h1 h2)
  obtain ⟨neg, num, den⟩ := r
  simp only at *
  have hne := num_ne h
  unfold vRat
  simp only
  by_cases hd : den.size = 0
  · have hz : den = { data := #[] } := ByteArray.ext (Array.eq_empty_of_size_eq_zero hd)
    subst hz
    clear hd h2 c1 c2 h h1 G ho
    have hn1 : ((({ data := #[] } : ByteArray).toList) == [1]) = false := by rw [ByteArray.toList_eq]; rfl
    go_enter Tryz.func162, Tryz.ntmps162
    go_wp2
    go_quiet ((first
      | (go_at_call_of 198 (Value.string num); exact Calls.quiet_of_same ((N1.out _).mono fun e w' h => ⟨h.1, h.2.symm⟩))
      | (go_at_call_of 198 (Value.string { data := #[] }); exact Calls.quiet_of_same ((N2.out _).mono fun e w' h => ⟨h.1, h.2.symm⟩))))
    go_wp2
    go_ret
    exact ⟨rfl, Below.drewN ((Below.refl _ _).alloc (Nat.le_refl _) _) _⟩
  have hne2 := num_ne hd
  have hn1 := str_ne1 (s := den) (fun e => ho (by rw [e, ← natStr_one]; exact strVal_natStr 1))
  by_cases hg : Nat.gcd (strVal num) (strVal den) = 1
  · rw [hg, natStr_one] at G
    have HR := hid (show (decide (den.size = 0) || (decide (strVal den ≠ 1) && decide (Nat.gcd (strVal num) (strVal den) = 1))) = true by simp [ho, hg])
    rw [HR.out]
    clear hd h2 c1 c2 h h1 ho hg
    go_enter Tryz.func162, Tryz.ntmps162
    go_wp2
    go_quiet ((first
      | (go_at_call_of 198 (Value.string num); exact Calls.quiet_of_same ((N1.out _).mono fun e w' h => ⟨h.1, h.2.symm⟩))
      | (go_at_call_of 198 (Value.string den); exact Calls.quiet_of_same ((N2.out _).mono fun e w' h => ⟨h.1, h.2.symm⟩))))
    go_wp2_with fail
    refine Calls.mono (G.out _) ?_
    rintro e w1 ⟨rfl, hb1⟩
    go_wp2
    go_ret
    exact ⟨rfl, Below.step (Below.drewN ((Below.refl _ _).alloc (Nat.le_refl _) _) _) hb1⟩
  have hn3 := str_ne1 (natStr_ne1 hg)
  have HR := hid (show (decide (den.size = 0) || (decide (strVal den ≠ 1) && decide (Nat.gcd (strVal num) (strVal den) = 1))) = false by simp [hd, hg])
  rw [HR.out]
  generalize natStr (Nat.gcd (strVal num) (strVal den)) = gs at *
  clear hd h2 c1 c2 h h1 ho hg HR
  go_enter Tryz.func162, Tryz.ntmps162
  go_wp2
  go_quiet ((first
    | (go_at_call_of 198 (Value.string num); exact Calls.quiet_of_same ((N1.out _).mono fun e w' h => ⟨h.1, h.2.symm⟩))
    | (go_at_call_of 198 (Value.string den); exact Calls.quiet_of_same ((N2.out _).mono fun e w' h => ⟨h.1, h.2.symm⟩))))
  go_wp2_with fail
  refine Calls.mono (G.out _) ?_
  rintro e w1 ⟨rfl, hb1⟩
  go_wp2
  go_ret
  exact ⟨rfl, Below.step (Below.drewN ((Below.refl _ _).alloc (Nat.le_refl _) _) _) hb1⟩
theorem rValid_any (r : GRat) (w : World) (h1 : r.num.size ≤ 500000000000) (h2 : r.den.size ≤ 500000000000) :
    Calls Tryz.prog 162 #[vRat r] w fun e w' => e = .returned (.bool (gValid r)) ∧ Below w.heap.size w w' := by
  by_cases c1 : natStr (strVal r.num) = r.num
  · by_cases c2 : natStr (strVal r.den) = r.den
    · by_cases ho : strVal r.den = 1
      · have hd : ¬ r.den.size = 0 := fun h => by rw [strVal_zero_of h] at ho; cases ho
        have hf : gValid r = false := by
          by_cases h : r.num.size = 0
          · rw [gValid_3 c1 c2 h]; simp [hd]
          rw [gValid_4 c1 c2 h]; simp [hd, ho]
        rw [hf]; exact rValid_o r w h1 h2 c1 c2 ho
      by_cases h : r.num.size = 0
      · rw [gValid_3 c1 c2 h]; exact rValid_3 r w h1 h2 c1 c2 h ho
      rw [gValid_4 c1 c2 h]; exact rValid_4 r w h1 h2 c1 c2 h ho
    rw [gValid_2 c2]; exact rValid_2 r w h1 h2 c1 c2
  rw [gValid_1 c1]; exact rValid_1 r w h1 c1
theorem rFix_any (r : GRat) (w : World) (h1 : r.num.size ≤ 500000000000) (h2 : r.den.size ≤ 500000000000) :
    Calls Tryz.prog 123 #[vRat r] w fun e w' => e = .returned (vRat (enc (qOf r))) ∧ Below w.heap.size w w' := by
  have V := hid (fun w => rValid_any r w h1 h2)
  have hx0 := hid (Bx2.new w r gZ)
  clear h1 h2
  by_cases h : gValid r = true
  · rw [qOf_ok h]
    rw [h] at V
    unfold vRat
    clear h
    go_enter Tryz.func123, Tryz.ntmps123
    go_wp2_with fail
    refine Calls.mono (V.out _) ?_
    rintro e w1 ⟨rfl, hb1⟩
    have hx1 := hx0.out.next hb1
    obtain ⟨x0, x1, x2, x3, x4⟩ := hx1.1.facts
    obtain ⟨t0, t1, t2, t3, t4⟩ := hx1.2.1.facts
    go_wp2
    refine ret_blk3 (hx1.ret _).1 (fun W' c0 c1 c2 => by simp [results, Tryz.results123, go_sem, c0, c1, c2]) rfl ⟨rfl, (hx1.ret _).2⟩
  have h' : gValid r = false := by simpa using h
  rw [qOf_bad h', ← gZ_enc]
  rw [h'] at V
  unfold vRat
  clear h h'
  go_enter Tryz.func123, Tryz.ntmps123
  go_wp2_with fail
  refine Calls.mono (V.out _) ?_
  rintro e w1 ⟨rfl, hb1⟩
  have hx1 := hx0.out.next hb1
  obtain ⟨t0, t1, t2, t3, t4⟩ := hx1.2.1.facts
  go_wp2
  refine ret_blk3 (hx1.ret gZ).1 (fun W' c0 c1 c2 => by simp [results, Tryz.results123, go_sem, c0, c1, c2]) rfl ⟨rfl, (hx1.ret gZ).2⟩
end Go.Proofs.YtmbahnmhicdjfaaGreatDoor
end
