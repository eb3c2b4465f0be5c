/- insolvencyref1: Plus: walked. -/
import Derived.Test.YtogeijhepjcbgaaGreatDoorQ1M
import Derived.Deep.QuietTactic
import Derived.BigQuiet
import Derived.Test.YtogeijhepjcbgaaGreatDoorShelfM
import Derived.Test.YtogeijhepjcbgaaGreatDoorNat5M
set_option linter.unusedVariables false
set_option linter.unusedSimpArgs false
set_option linter.defProp false
set_option linter.unnecessarySimpa false
section
/- insolvencyref1: Plus: walked. -/
namespace Go.Proofs.YtogeijhepjcbgaaGreatDoor
open Go.RowKit
attribute [local go_sem ↓] Go.wp_at_zero Go.wp_at_succ
end Go.Proofs.YtogeijhepjcbgaaGreatDoor
end
section
/- Refunds, rates and what is kept, over rational numbers: plain. -/
namespace Go.Proofs.YtogeijhepjcbgaaGreatDoor
def qpos (q : Rat) : Rat := if q < 0 then 0 else q
def gS (l : List Rat) : Nat → Rat
  | 0 => 0
  | k + 1 => gS l k + qpos (l.getD k 0)
def gO (w : Rat) (l : List Rat) (k : Nat) : Rat := qpos (gS l k - qpos w)
def gR (w : Rat) (l : List Rat) : List Rat := (List.range l.length).map fun k => gO w l (k + 1) - gO w l k
theorem qpos_ge (q : Rat) : 0 ≤ qpos q := by unfold qpos; grind
theorem gS_step (l : List Rat) (k : Nat) : gS l (k + 1) = gS l k + qpos (l.getD k 0) := rfl
theorem gO_zero (w : Rat) (l : List Rat) : gO w l 0 = 0 := by
  have := qpos_ge w
  unfold gO qpos gS; unfold qpos at this; grind
def NonNeg (l : List Rat) : Prop := ∀ x ∈ l, 0 ≤ x
theorem NonNeg.get {l : List Rat} (h : NonNeg l) (k : Nat) : 0 ≤ l.getD k 0 := by
  rcases Nat.lt_or_ge k l.length with h1 | h1
  · simp only [List.getD, List.getElem?_eq_getElem h1, Option.getD_some]
    exact h _ (List.getElem_mem h1)
  · simp [List.getD, List.getElem?_eq_none h1]
end Go.Proofs.YtogeijhepjcbgaaGreatDoor
end
section
/- Refunds grow with the rates; amounts of the laws: plain. -/
namespace Go.Proofs.YtogeijhepjcbgaaGreatDoor
def qAmt (x : Nat) : Rat := if x % 5 = 0 then mkRat ((x / 5 % 23 : Nat) : Int) (1 + x / 115 % 6) else if x % 5 = 1 then (((10 * (x / 5 % 4) : Nat) : Int) : Rat) else (((x / 5 % 13 : Nat) : Int) : Rat)
theorem amt_nonneg (x : Nat) : 0 ≤ qAmt x := by
  unfold qAmt
  split
  · rw [Rat.mkRat_eq_div]
    rw [Rat.div_def]
    apply Rat.mul_nonneg
    · exact Rat.intCast_nonneg.2 (by omega)
    · apply Rat.le_of_lt
      rw [Rat.inv_pos]
      exact Rat.natCast_pos.2 (by omega)
  · split
    · exact Rat.intCast_nonneg.2 (by omega)
    · exact Rat.intCast_nonneg.2 (by omega)
theorem amt_qB (x : Nat) : qB 1 (qAmt x) := by
  unfold qAmt
  split
  · exact qB_mkRat (by simp; omega) (by omega) (by decide)
  · split
    · exact ⟨by rw [Rat.num_intCast]; simp; omega, by rw [Rat.den_intCast]; decide⟩
    · exact ⟨by rw [Rat.num_intCast]; simp; omega, by rw [Rat.den_intCast]; decide⟩
end Go.Proofs.YtogeijhepjcbgaaGreatDoor
end
section
/- insolvencyref1: Minus, Less, Lesser, Greater: walked. -/
namespace Go.Proofs.YtogeijhepjcbgaaGreatDoor
open Go.RowKit
attribute [local go_sem ↓] Go.wp_at_zero Go.wp_at_succ
theorem gOpp_enc (q : Rat) : gOpp (enc q) = enc (-q) := enc_opp q
theorem sgnZ_enc (q : Rat) : sgnZ (enc q) = qSgn q := gSgn_enc q
def qmax (a b : Rat) : Rat := if a < b then b else a
end Go.Proofs.YtogeijhepjcbgaaGreatDoor
end
section
/- rational: Valid: walked. -/
namespace Go.Proofs.YtogeijhepjcbgaaGreatDoor
open Go.RowKit
theorem natStr_one : natStr 1 = { data := #[1] } := by
  unfold natStr; rw [natBytes_pos (by decide)]; simp [natBytes_zero]
theorem str_ne {s t : ByteArray} (h : s ≠ t) : (s.toList == t.toList) = false := by
  rw [beq_eq_false_iff_ne]
  intro e
  rw [ByteArray.toList_eq, ByteArray.toList_eq] at e
  exact h (ByteArray.ext (Array.ext' e))
theorem str_ne1 {s : ByteArray} (h : s ≠ { data := #[1] }) : (s.toList == [1]) = false := by
  rw [beq_eq_false_iff_ne]
  intro e
  rw [ByteArray.toList_eq] at e
  exact h (ByteArray.ext (Array.ext' e))
theorem gValid_1 {r : GRat} (c1 : natStr (strVal r.num) ≠ r.num) : gValid r = false := by simp [gValid, c1]
theorem gValid_2 {r : GRat} (c2 : natStr (strVal r.den) ≠ r.den) : gValid r = false := by simp [gValid, c2]
theorem gValid_3 {r : GRat} (c1 : natStr (strVal r.num) = r.num) (c2 : natStr (strVal r.den) = r.den) (h : r.num.size = 0) : gValid r = (!r.neg && decide (r.den.size = 0)) := by simp [gValid, c1, c2, h]
theorem gValid_4 {r : GRat} (c1 : natStr (strVal r.num) = r.num) (c2 : natStr (strVal r.den) = r.den) (h : ¬ r.num.size = 0) : gValid r = (decide (r.den.size = 0) || (decide (strVal r.den ≠ 1) && decide (Nat.gcd (strVal r.num) (strVal r.den) = 1))) := by simp [gValid, c1, c2, h]
theorem qValid_1 (r : GRat) (w : World) (h1 : r.num.size ≤ 500000000000) (c1 : natStr (strVal r.num) ≠ r.num) :
    Calls Tryz.prog 122 #[vRat r] w fun e w' => e = .returned (.bool false) ∧ Below w.heap.size w w' := by
  have N1 := hid (fun w => normalize_any r.num w (by unfold maxLen; omega))
  obtain ⟨neg, num, den⟩ := r
  simp only at *
  generalize natStr (strVal num) = s at *
  have e1 := str_ne c1
  unfold vRat
  simp only
  clear c1
  go_enter Tryz.func122, Tryz.ntmps122
  go_wp2
  go_quiet ((go_at_call 110; exact Calls.quiet_of_same ((N1.out _).mono fun e w' h => ⟨h.1, h.2.symm⟩)))
  go_wp2
  go_ret
  exact ⟨rfl, Below.drewN ((Below.refl _ _).alloc (Nat.le_refl _) _) _⟩
theorem qValid_2 (r : GRat) (w : World) (h1 : r.num.size ≤ 500000000000) (h2 : r.den.size ≤ 500000000000) (c1 : natStr (strVal r.num) = r.num) (c2 : natStr (strVal r.den) ≠ r.den) :
    Calls Tryz.prog 122 #[vRat r] w fun e w' => e = .returned (.bool false) ∧ Below w.heap.size w w' := by
  have N1 := hid (fun w => normalize_any r.num w (by unfold maxLen; omega))
  have N2 := hid (fun w => normalize_any r.den w (by unfold maxLen; omega))
  rw [c1] at N1
  obtain ⟨neg, num, den⟩ := r
  simp only at *
  generalize natStr (strVal den) = s at *
  have e1 := str_ne c2
  unfold vRat
  simp only
  clear c1 c2
  go_enter Tryz.func122, Tryz.ntmps122
  go_wp2
  go_quiet ((first
    | (go_at_call_of 110 (Value.string num); exact Calls.quiet_of_same ((N1.out _).mono fun e w' h => ⟨h.1, h.2.symm⟩))
    | (go_at_call_of 110 (Value.string den); exact Calls.quiet_of_same ((N2.out _).mono fun e w' h => ⟨h.1, h.2.symm⟩))))
  go_wp2
  go_ret
  exact ⟨rfl, Below.drewN ((Below.refl _ _).alloc (Nat.le_refl _) _) _⟩
theorem qValid_3 (r : GRat) (w : World) (h1 : r.num.size ≤ 500000000000) (h2 : r.den.size ≤ 500000000000) (c1 : natStr (strVal r.num) = r.num) (c2 : natStr (strVal r.den) = r.den) (h : r.num.size = 0) :
    Calls Tryz.prog 122 #[vRat r] w fun e w' => e = .returned (.bool (!r.neg && decide (r.den.size = 0))) ∧ Below w.heap.size w w' := by
  have N1 := hid (fun w => normalize_any r.num w (by unfold maxLen; omega))
  have N2 := hid (fun w => normalize_any r.den w (by unfold maxLen; omega))
  rw [c1] at N1
  rw [c2] at N2
  obtain ⟨neg, num, den⟩ := r
  simp only at *
  have hz : num = { data := #[] } := ByteArray.ext (Array.eq_empty_of_size_eq_zero h)
  subst hz
  unfold vRat
  simp only
  clear c1 c2 h h1
  cases neg
  · by_cases hd : den.size = 0
    · have hz : den = { data := #[] } := ByteArray.ext (Array.eq_empty_of_size_eq_zero hd)
      subst hz
      clear hd h2
      go_enter Tryz.func122, Tryz.ntmps122
      go_wp2
      go_quiet ((go_at_call 110; exact Calls.quiet_of_same ((N1.out _).mono fun e w' h => ⟨h.1, h.2.symm⟩)))
      go_wp2
      go_ret
      exact ⟨rfl, Below.drewN ((Below.refl _ _).alloc (Nat.le_refl _) _) _⟩
    · have hne := num_ne hd
      have HR := hid (show (!false && decide (den.size = 0)) = false by simp [hd])
      rw [HR.out]
      clear hd h2
      go_enter Tryz.func122, Tryz.ntmps122
      go_wp2
      go_quiet ((first
        | (go_at_call_of 110 (Value.string { data := #[] }); exact Calls.quiet_of_same ((N1.out _).mono fun e w' h => ⟨h.1, h.2.symm⟩))
        | (go_at_call_of 110 (Value.string den); exact Calls.quiet_of_same ((N2.out _).mono fun e w' h => ⟨h.1, h.2.symm⟩))))
      go_wp2
      go_ret
      exact ⟨rfl, Below.drewN ((Below.refl _ _).alloc (Nat.le_refl _) _) _⟩
  · have HR := hid (show (!true && decide (den.size = 0)) = false by simp)
    rw [HR.out]
    clear h2
    go_enter Tryz.func122, Tryz.ntmps122
    go_wp2
    go_quiet ((first
      | (go_at_call_of 110 (Value.string { data := #[] }); exact Calls.quiet_of_same ((N1.out _).mono fun e w' h => ⟨h.1, h.2.symm⟩))
      | (go_at_call_of 110 (Value.string den); exact Calls.quiet_of_same ((N2.out _).mono fun e w' h => ⟨h.1, h.2.symm⟩))))
    go_wp2
    go_ret
    exact ⟨rfl, Below.drewN ((Below.refl _ _).alloc (Nat.le_refl _) _) _⟩
end Go.Proofs.YtogeijhepjcbgaaGreatDoor
end
section
/- natural: Compare: walked. -/
namespace Go.Proofs.YtogeijhepjcbgaaGreatDoor
open Go.RowKit
theorem compareBytes_eq : ∀ (l r : List UInt8), l.length = r.length → Lib.compareBytes l r = natCmp (bytesVal l) (bytesVal r)
  | [], [], _ => by simp [Lib.compareBytes, natCmp, bytesVal]
  | [], _ :: _, h => by simp at h
  | _ :: _, [], h => by simp at h
  | a :: l, b :: r, h => by
    have hl : l.length = r.length := by simpa using h
    have ih := compareBytes_eq l r hl
    have h1 := bytesVal_lt l
    have h2 := bytesVal_lt r
    simp only [Lib.compareBytes]
    rw [ih, bytesVal_cons, bytesVal_cons, hl]
    rw [hl] at h1
    have ha : (a < b) ↔ a.toNat < b.toNat := UInt8.lt_iff_toNat_lt
    have hb : (b < a) ↔ b.toNat < a.toNat := UInt8.lt_iff_toNat_lt
    generalize 256 ^ r.length = P at *
    generalize bytesVal l = x at *
    generalize bytesVal r = y at *
    by_cases c1 : a.toNat < b.toNat
    · rw [if_pos (ha.2 c1)]
      have := Nat.mul_le_mul_right P (show a.toNat + 1 ≤ b.toNat from c1)
      rw [Nat.add_mul] at this
      unfold natCmp
      rw [if_pos (by omega)]
    · rw [if_neg (fun h => c1 (ha.1 h))]
      by_cases c2 : b.toNat < a.toNat
      · rw [if_pos (hb.2 c2)]
        have := Nat.mul_le_mul_right P (show b.toNat + 1 ≤ a.toNat from c2)
        rw [Nat.add_mul] at this
        unfold natCmp
        rw [if_neg (by omega), if_pos (by omega)]
      · rw [if_neg (fun h => c2 (hb.1 h))]
        have : a.toNat = b.toNat := by omega
        rw [this]
        generalize b.toNat * P = q
        unfold natCmp
        simp only [Nat.add_lt_add_iff_left]
theorem compare_natStr {x y : Nat} (h : (natStr x).size = (natStr y).size) : Lib.compareBytes (natStr x).data.toList (natStr y).data.toList = natCmp x y := by
  rw [natStr_size, natStr_size] at h
  have := compareBytes_eq (natBytes x) (natBytes y) h
  rw [bytesVal_natBytes, bytesVal_natBytes] at this
  simpa [natStr] using this
theorem natBytes_mono {x y : Nat} (h : x ≤ y) : (natBytes x).length ≤ (natBytes y).length := natBytes_len_le (Nat.lt_of_le_of_lt h (natBytes_lt y))
theorem sign_natStr {x y : Nat} (h : (natStr x).size ≠ (natStr y).size) : signZ (((natStr x).size : Int) - ((natStr y).size : Int)) = natCmp x y := by
  rw [natStr_size, natStr_size] at *
  unfold signZ natCmp
  by_cases c : x < y
  · have := natBytes_mono (Nat.le_of_lt c)
    rw [if_pos c, if_pos (by omega)]
  · have := natBytes_mono (Nat.le_of_not_lt c)
    rw [if_neg c, if_neg (by omega)]
    by_cases d : y < x
    · rw [if_pos d]; try rw [if_pos (by omega)]
    · exfalso
      have : x = y := by omega
      subst this
      exact h rfl
theorem natStr_strVal_size (s : ByteArray) : (natStr (strVal s)).size ≤ s.size := by rw [natStr_size]; exact natBytes_len_le (strVal_lt s)
set_option maxRecDepth 100000 in
theorem Compare_any (a b : ByteArray) (w : World) (ha : a.size ≤ maxLen) (hb : b.size ≤ maxLen) :
    Calls Tryz.prog 104 #[.string a, .string b] w fun e w' => e = .returned (.int .i64 (natCmp (strVal a) (strVal b))) ∧ w = w' := by
  have H1 := hid (normalize_any a w ha)
  have H2 := hid (normalize_any b w hb)
  have sa := natStr_strVal_size a
  have sb := natStr_strVal_size b
  have hmx : (maxLen : Nat) ≤ 9223372036854775807 := by unfold maxLen; omega
  have hsa : (natStr (strVal a)).size ≤ 9223372036854775807 := by omega
  have hsb : (natStr (strVal b)).size ≤ 9223372036854775807 := by omega
  by_cases h : (natStr (strVal a)).size = (natStr (strVal b)).size
  · have HC := hid (Tryz.strings_Compare (natStr (strVal a)) (natStr (strVal b)) w)
    rw [compare_natStr h] at HC
    generalize natCmp (strVal a) (strVal b) = c at *
    generalize natStr (strVal a) = x at *
    generalize natStr (strVal b) = y at *
    have hxy : ¬ ((x.size : Int) ≠ (y.size : Int)) := by omega
    clear sa sb ha hb hmx
    go_enter Tryz.func104, Tryz.ntmps104
    go_wp2_with fail
    refine Calls.mono H1.out ?_
    rintro e w1 ⟨rfl, rfl⟩
    go_wp2_with fail
    refine Calls.mono H2.out ?_
    rintro e w1 ⟨rfl, rfl⟩
    go_wp2_with fail
    refine Calls.mono HC.out ?_
    rintro e w1 ⟨rfl, rfl⟩
    go_wp2
    go_ret
    exact ⟨rfl, rfl⟩
  · have HC := hid (sign_any (((natStr (strVal a)).size : Int) - ((natStr (strVal b)).size : Int)) w)
    rw [sign_natStr h] at HC
    generalize natCmp (strVal a) (strVal b) = c at *
    generalize natStr (strVal a) = x at *
    generalize natStr (strVal b) = y at *
    have hxy : ((x.size : Int) ≠ (y.size : Int)) := by omega
    clear sa sb ha hb hmx h
    go_enter Tryz.func104, Tryz.ntmps104
    go_wp2_with fail
    refine Calls.mono H1.out ?_
    rintro e w1 ⟨rfl, rfl⟩
    go_wp2_with fail
    refine Calls.mono H2.out ?_
    rintro e w1 ⟨rfl, rfl⟩
    go_wp2_with fail
    refine Calls.mono HC.out ?_
    rintro e w1 ⟨rfl, rfl⟩
    go_wp2
    go_ret
    exact ⟨rfl, rfl⟩
end Go.Proofs.YtogeijhepjcbgaaGreatDoor
end
section
/- rational: Valid, clean: walked. -/
namespace Go.Proofs.YtogeijhepjcbgaaGreatDoor
open Go.RowKit
theorem natStr_ne1 {n : Nat} (h : n ≠ 1) : natStr n ≠ { data := #[1] } := by
  intro e; rw [← natStr_one] at e; exact h (natStr_inj e)
theorem qValid_4 (r : GRat) (w : World) (h1 : r.num.size ≤ 500000000000) (h2 : r.den.size ≤ 500000000000) (c1 : natStr (strVal r.num) = r.num) (c2 : natStr (strVal r.den) = r.den) (h : ¬ r.num.size = 0) :
    Calls Tryz.prog 122 #[vRat r] w fun e w' => e = .returned (.bool (decide (r.den.size = 0) || (decide (strVal r.den ≠ 1) && decide (Nat.gcd (strVal r.num) (strVal r.den) = 1)))) ∧ Below w.heap.size w w' := by
  have N1 := hid (fun w => normalize_any r.num w (by unfold maxLen; omega))
  have N2 := hid (fun w => normalize_any r.den w (by unfold maxLen; omega))
  rw [c1] at N1
  rw [c2] at N2
  have G := hid (fun w => GCD_any r.num r.den w h1 h2)
  obtain ⟨neg, num, den⟩ := r
  simp only at *
  have hne := num_ne h
  unfold vRat
  simp only
  by_cases hd : den.size = 0
  · have hz : den = { data := #[] } := ByteArray.ext (Array.eq_empty_of_size_eq_zero hd)
    subst hz
    clear hd h2 c1 c2 h h1 G
    go_enter Tryz.func122, Tryz.ntmps122
    go_wp2
    go_quiet ((first
      | (go_at_call_of 110 (Value.string num); exact Calls.quiet_of_same ((N1.out _).mono fun e w' h => ⟨h.1, h.2.symm⟩))
      | (go_at_call_of 110 (Value.string { data := #[] }); exact Calls.quiet_of_same ((N2.out _).mono fun e w' h => ⟨h.1, h.2.symm⟩))))
    go_wp2
    go_ret
    exact ⟨rfl, Below.drewN ((Below.refl _ _).alloc (Nat.le_refl _) _) _⟩
  · have hne2 := num_ne hd
    by_cases ho : strVal den = 1
    · rw [ho, natStr_one] at c2
      subst c2
      have HR := hid (show (decide (({ data := #[1] } : ByteArray).size = 0) || (decide (strVal { data := #[1] } ≠ 1) && decide (Nat.gcd (strVal num) (strVal { data := #[1] }) = 1))) = false by rw [ho]; simp only [ne_eq, not_true, decide_false, Bool.false_and, Bool.or_false]; exact decide_eq_false hd)
      rw [HR.out]
      clear hd h2 c1 h h1 G ho hne2
      go_enter Tryz.func122, Tryz.ntmps122
      go_wp2
      go_quiet ((first
        | (go_at_call_of 110 (Value.string num); exact Calls.quiet_of_same ((N1.out _).mono fun e w' h => ⟨h.1, h.2.symm⟩))
        | (go_at_call_of 110 (Value.string { data := #[1] }); exact Calls.quiet_of_same ((N2.out _).mono fun e w' h => ⟨h.1, h.2.symm⟩))))
      go_wp2
      go_ret
      exact ⟨rfl, Below.drewN ((Below.refl _ _).alloc (Nat.le_refl _) _) _⟩
    · have hn1 := str_ne1 (s := den) (fun e => ho (by rw [e, ← natStr_one]; exact strVal_natStr 1))
      by_cases hg : Nat.gcd (strVal num) (strVal den) = 1
      · rw [hg, natStr_one] at G
        have HR := hid (show (decide (den.size = 0) || (decide (strVal den ≠ 1) && decide (Nat.gcd (strVal num) (strVal den) = 1))) = true by simp [ho, hg])
        rw [HR.out]
        clear hd h2 c1 c2 h h1 ho hg
        go_enter Tryz.func122, Tryz.ntmps122
        go_wp2
        go_quiet ((first
          | (go_at_call_of 110 (Value.string num); exact Calls.quiet_of_same ((N1.out _).mono fun e w' h => ⟨h.1, h.2.symm⟩))
          | (go_at_call_of 110 (Value.string den); exact Calls.quiet_of_same ((N2.out _).mono fun e w' h => ⟨h.1, h.2.symm⟩))))
        go_wp2_with fail
        refine Calls.mono (G.out _) ?_
        rintro e w1 ⟨rfl, hb1⟩
        go_wp2
        go_ret
        exact ⟨rfl, Below.step (Below.drewN ((Below.refl _ _).alloc (Nat.le_refl _) _) _) hb1⟩
      · have hn3 := str_ne1 (natStr_ne1 hg)
        have HR := hid (show (decide (den.size = 0) || (decide (strVal den ≠ 1) && decide (Nat.gcd (strVal num) (strVal den) = 1))) = false by simp [hd, hg])
        rw [HR.out]
        generalize natStr (Nat.gcd (strVal num) (strVal den)) = gs at *
        clear hd h2 c1 c2 h h1 ho hg HR
        go_enter Tryz.func122, Tryz.ntmps122
        go_wp2
        go_quiet ((first
          | (go_at_call_of 110 (Value.string num); exact Calls.quiet_of_same ((N1.out _).mono fun e w' h => ⟨h.1, h.2.symm⟩))
          | (go_at_call_of 110 (Value.string den); exact Calls.quiet_of_same ((N2.out _).mono fun e w' h => ⟨h.1, h.2.symm⟩))))
        go_wp2_with fail
        refine Calls.mono (G.out _) ?_
        rintro e w1 ⟨rfl, hb1⟩
        go_wp2
        go_ret
        exact ⟨rfl, Below.step (Below.drewN ((Below.refl _ _).alloc (Nat.le_refl _) _) _) hb1⟩
theorem qValid_any (r : GRat) (w : World) (h1 : r.num.size ≤ 500000000000) (h2 : r.den.size ≤ 500000000000) :
    Calls Tryz.prog 122 #[vRat r] w fun e w' => e = .returned (.bool (gValid r)) ∧ Below w.heap.size w w' := by
  by_cases c1 : natStr (strVal r.num) = r.num
  · by_cases c2 : natStr (strVal r.den) = r.den
    · by_cases h : r.num.size = 0
      · rw [gValid_3 c1 c2 h]; exact qValid_3 r w h1 h2 c1 c2 h
      · rw [gValid_4 c1 c2 h]; exact qValid_4 r w h1 h2 c1 c2 h
    · rw [gValid_2 c2]; exact qValid_2 r w h1 h2 c1 c2
  · rw [gValid_1 c1]; exact qValid_1 r w h1 c1
theorem qclean_any (r : GRat) (w : World) (h1 : r.num.size ≤ 500000000000) (h2 : r.den.size ≤ 500000000000) :
    Calls Tryz.prog 92 #[vRat r] w fun e w' => e = .returned (vRat (enc (qOf r))) ∧ Below w.heap.size w w' := by
  have V := hid (fun w => qValid_any r w h1 h2)
  have hx0 := hid (Bx2.new w r gZ)
  clear h1 h2
  by_cases h : gValid r = true
  · rw [qOf_ok h]
    rw [h] at V
    unfold vRat
    clear h
    go_enter Tryz.func92, Tryz.ntmps92
    go_wp2_with fail
    refine Calls.mono (V.out _) ?_
    rintro e w1 ⟨rfl, hb1⟩
    have hx1 := hx0.out.next hb1
    obtain ⟨x0, x1, x2, x3, x4⟩ := hx1.1.facts
    obtain ⟨t0, t1, t2, t3, t4⟩ := hx1.2.1.facts
    go_wp2
    refine ret_blk3 (hx1.ret _).1 (fun W' c0 c1 c2 => by simp [results, Tryz.results92, go_sem, c0, c1, c2]) rfl ⟨rfl, (hx1.ret _).2⟩
  · have h' : gValid r = false := by simpa using h
    rw [qOf_bad h', ← gZ_enc]
    rw [h'] at V
    unfold vRat
    clear h h'
    go_enter Tryz.func92, Tryz.ntmps92
    go_wp2_with fail
    refine Calls.mono (V.out _) ?_
    rintro e w1 ⟨rfl, hb1⟩
    have hx1 := hx0.out.next hb1
    obtain ⟨t0, t1, t2, t3, t4⟩ := hx1.2.1.facts
    go_wp2
    refine ret_blk3 (hx1.ret gZ).1 (fun W' c0 c1 c2 => by simp [results, Tryz.results92, go_sem, c0, c1, c2]) rfl ⟨rfl, (hx1.ret gZ).2⟩
end Go.Proofs.YtogeijhepjcbgaaGreatDoor
end
section
/- insolvencyref1: Valid, Fix: walked. -/
namespace Go.Proofs.YtogeijhepjcbgaaGreatDoor
open Go.RowKit
end Go.Proofs.YtogeijhepjcbgaaGreatDoor
end
section
/- rational: den, signOf, negate, magnitude: walked. -/
namespace Go.Proofs.YtogeijhepjcbgaaGreatDoor
open Go.RowKit
theorem qden_enc (q : Rat) (w : World) : Calls Tryz.prog 106 #[vRat (enc q)] w fun e w' => e = .returned (.string (natStr q.den)) ∧ Below w.heap.size w w' := by
  by_cases h : q.den = 1
  · have e1 : (enc q).den = { data := #[] } := by unfold enc; simp only [h, if_true]; rfl
    rw [h, natStr_one]
    unfold vRat
    rw [e1]
    generalize enc q = a at *
    clear h e1
    go_enter Tryz.func106, Tryz.ntmps106
    go_wp2
    go_ret
    exact ⟨rfl, (Below.refl _ _).alloc (Nat.le_refl _) _⟩
  · have e1 : (enc q).den = natStr q.den := by unfold enc; simp only [h, if_false]
    have hne := num_ne (natStr_ne q.den_nz)
    unfold vRat
    rw [e1]
    generalize natStr q.den = d at *
    generalize enc q = a at *
    clear h e1
    go_enter Tryz.func106, Tryz.ntmps106
    go_wp2
    go_ret
    exact ⟨rfl, (Below.refl _ _).alloc (Nat.le_refl _) _⟩
theorem qsignOf_any (r : GRat) (w : World) : Calls Tryz.prog 102 #[vRat r] w fun e w' => e = .returned (.int .i64 (sgnZ r)) ∧ Below w.heap.size w w' := by
  unfold vRat
  by_cases h : r.num.size = 0
  · have hz : r.num = { data := #[] } := ByteArray.ext (Array.eq_empty_of_size_eq_zero h)
    have hR := hid (show sgnZ r = 0 by unfold sgnZ; rw [if_pos h])
    rw [hz]
    clear h hz
    go_enter Tryz.func102, Tryz.ntmps102
    go_wp2
    go_ret
    exact ⟨ret_int hR.out.symm, (Below.refl _ _).alloc (Nat.le_refl _) _⟩
  · have hz := num_ne h
    cases hn : r.neg with
    | true =>
      have hR := hid (show sgnZ r = -1 by unfold sgnZ; rw [if_neg h, if_pos hn])
      clear h hn
      go_enter Tryz.func102, Tryz.ntmps102
      go_wp2
      go_ret
      exact ⟨ret_int hR.out.symm, (Below.refl _ _).alloc (Nat.le_refl _) _⟩
    | false =>
      have hR := hid (show sgnZ r = 1 by unfold sgnZ; rw [if_neg h, if_neg (by rw [hn]; decide)])
      clear h hn
      go_enter Tryz.func102, Tryz.ntmps102
      go_wp2
      go_ret
      exact ⟨ret_int hR.out.symm, (Below.refl _ _).alloc (Nat.le_refl _) _⟩
theorem qnegate_any (r : GRat) (w : World) (hv : r.num.size = 0 → r.neg = false) : Calls Tryz.prog 109 #[vRat r] w fun e w' => e = .returned (vRat (gOpp r)) ∧ Below w.heap.size w w' := by
  by_cases h : r.num.size = 0
  · have hz : r.num = { data := #[] } := ByteArray.ext (Array.eq_empty_of_size_eq_zero h)
    have hn := hv h
    have hR := hid (show gOpp r = r by unfold gOpp; rw [if_pos h])
    rw [hR.out]
    unfold vRat
    rw [hz, hn]
    clear h hz hn hv
    go_enter Tryz.func109, Tryz.ntmps109
    go_wp2
    go_returns
    exact ⟨rfl, ((Below.refl _ _).alloc (Nat.le_refl _) _).alloc (by simp) _⟩
  · have hz := num_ne h
    have hR := hid (show gOpp r = ⟨!r.neg, r.num, r.den⟩ by unfold gOpp; rw [if_neg h])
    rw [hR.out]
    unfold vRat
    clear h hv
    cases hn : r.neg
    · clear hn
      go_enter Tryz.func109, Tryz.ntmps109
      go_wp2
      go_returns
      exact ⟨rfl, ((Below.refl _ _).alloc (Nat.le_refl _) _).alloc (by simp) _⟩
    · clear hn
      go_enter Tryz.func109, Tryz.ntmps109
      go_wp2
      go_returns
      exact ⟨rfl, ((Below.refl _ _).alloc (Nat.le_refl _) _).alloc (by simp) _⟩
theorem qmagnitude_any (n : Int) (w : World) (h0 : -9223372036854775808 ≤ n) (h1 : n ≤ 9223372036854775807) : Calls Tryz.prog 85 #[.int .i64 n] w fun e w' => e = .returned (.string (natStr n.natAbs)) ∧ Below w.heap.size w w' := by
  have F := hid (fun w => fromUint_any n.natAbs w (by omega))
  by_cases h : n < 0
  · have e1 : IntKind.u64.wrap (-(IntKind.u64.wrap n)) = (n.natAbs : Int) := by rw [IntKind.wrap_u64, IntKind.wrap_u64]; omega
    go_enter Tryz.func85, Tryz.ntmps85
    go_wp2_with fail
    refine Calls.mono (F.out _) ?_
    rintro e w1 ⟨rfl, hb1⟩
    go_wp2
    go_ret
    exact ⟨rfl, hb1⟩
  · have e1 : n = (n.natAbs : Int) := by omega
    have F2 := hid (fun w => F.out w)
    rw [← e1] at F2
    clear F e1
    go_enter Tryz.func85, Tryz.ntmps85
    go_wp2_with fail
    refine Calls.mono (F2.out _) ?_
    rintro e w1 ⟨rfl, hb1⟩
    go_wp2
    go_ret
    exact ⟨rfl, hb1⟩
end Go.Proofs.YtogeijhepjcbgaaGreatDoor
end
