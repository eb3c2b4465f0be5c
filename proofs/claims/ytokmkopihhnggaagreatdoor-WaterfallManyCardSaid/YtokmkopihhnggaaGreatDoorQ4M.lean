/- Refunds grow with the rates; amounts of the laws: plain. -/
import Derived.Test.YtokmkopihhnggaaGreatDoorQ2M
import Derived.Deep.QuietTactic
import Derived.BigQuiet
import Derived.Test.YtokmkopihhnggaaGreatDoorRef7M
import Derived.Test.YtokmkopihhnggaaGreatDoorNat7M
import Derived.Test.YtokmkopihhnggaaGreatDoorRef10M
set_option linter.unusedVariables false
set_option linter.unusedSimpArgs false
set_option linter.defProp false
set_option linter.unnecessarySimpa false
section
/- Refunds grow with the rates; amounts of the laws: plain. -/
namespace Go.Proofs.YtokmkopihhnggaaGreatDoor
end Go.Proofs.YtokmkopihhnggaaGreatDoor
end
section
/- insolvencyref1: Minus, Less, Lesser, Greater: walked. -/
namespace Go.Proofs.YtokmkopihhnggaaGreatDoor
open Go.RowKit
attribute [local go_sem ↓] Go.wp_at_zero Go.wp_at_succ
theorem gOpp_enc (q : Rat) : gOpp (enc q) = enc (-q) := enc_opp q
theorem sgnZ_enc (q : Rat) : sgnZ (enc q) = qSgn q := gSgn_enc q
def qmax (a b : Rat) : Rat := if a < b then b else a
theorem qCmp_neg_iff (p q : Rat) : qCmp p q < 0 ↔ p < q := by unfold qCmp; grind
end Go.Proofs.YtokmkopihhnggaaGreatDoor
end
section
/- rational: Valid: walked. -/
namespace Go.Proofs.YtokmkopihhnggaaGreatDoor
open Go.RowKit
theorem natStr_one : natStr 1 = { data := #[1] } := by
  unfold natStr; rw [natBytes_pos (by decide)]; simp [natBytes_zero]
theorem str_ne {s t : ByteArray} (h : s ≠ t) : (s.toList == t.toList) = false := by
  rw [beq_eq_false_iff_ne]
  intro e
  rw [ByteArray.toList_eq, ByteArray.toList_eq] at e
  exact h (ByteArray.ext (Array.ext' e))
theorem str_ne1 {s : ByteArray} (h : s ≠ { data := #[1] }) : (s.toList == [1]) = false := by
  rw [beq_eq_false_iff_ne]
  intro e
  rw [ByteArray.toList_eq] at e
  exact h (ByteArray.ext (Array.ext' e))
theorem gValid_1 {r : GRat} (c1 : natStr (strVal r.num) ≠ r.num) : gValid r = false := by simp [gValid, c1]
theorem gValid_2 {r : GRat} (c2 : natStr (strVal r.den) ≠ r.den) : gValid r = false := by simp [gValid, c2]
theorem gValid_3 {r : GRat} (c1 : natStr (strVal r.num) = r.num) (c2 : natStr (strVal r.den) = r.den) (h : r.num.size = 0) : gValid r = (!r.neg && decide (r.den.size = 0)) := by simp [gValid, c1, c2, h]
theorem gValid_4 {r : GRat} (c1 : natStr (strVal r.num) = r.num) (c2 : natStr (strVal r.den) = r.den) (h : ¬ r.num.size = 0) : gValid r = (decide (r.den.size = 0) || (decide (strVal r.den ≠ 1) && decide (Nat.gcd (strVal r.num) (strVal r.den) = 1))) := by simp [gValid, c1, c2, h]
theorem qValid_1 (r : GRat) (w : World) (h1 : r.num.size ≤ 500000000000) (c1 : natStr (strVal r.num) ≠ r.num) :
    Calls Tryz.prog 126 #[vRat r] w fun e w' => e = .returned (.bool false) ∧ Below w.heap.size w w' := by
  have N1 := hid (fun w => normalize_any r.num w (by unfold maxLen; omega))
  obtain ⟨neg, num, den⟩ := r
  simp only at *
  generalize natStr (strVal num) = s at *
  have e1 := str_ne c1
  unfold vRat
  simp only
  clear c1
  go_enter Tryz.func126, Tryz.ntmps126
  go_wp2
  go_quiet ((go_at_call 134; exact Calls.quiet_of_same ((N1.out _).mono fun e w' h => ⟨h.1, h.2.symm⟩)))
  go_wp2
  go_ret
  exact ⟨rfl, Below.drewN ((Below.refl _ _).alloc (Nat.le_refl _) _) _⟩
theorem qValid_2 (r : GRat) (w : World) (h1 : r.num.size ≤ 500000000000) (h2 : r.den.size ≤ 500000000000) (c1 : natStr (strVal r.num) = r.num) (c2 : natStr (strVal r.den) ≠ r.den) :
    Calls Tryz.prog 126 #[vRat r] w fun e w' => e = .returned (.bool false) ∧ Below w.heap.size w w' := by
  have N1 := hid (fun w => normalize_any r.num w (by unfold maxLen; omega))
  have N2 := hid (fun w => normalize_any r.den w (by unfold maxLen; omega))
  rw [c1] at N1
  obtain ⟨neg, num, den⟩ := r
  simp only at *
  generalize natStr (strVal den) = s at *
  have e1 := str_ne c2
  unfold vRat
  simp only
  clear c1 c2
  go_enter Tryz.func126, Tryz.ntmps126
  go_wp2
  go_quiet ((first
    | (go_at_call_of 134 (Value.string num); exact Calls.quiet_of_same ((N1.out _).mono fun e w' h => ⟨h.1, h.2.symm⟩))
    | (go_at_call_of 134 (Value.string den); exact Calls.quiet_of_same ((N2.out _).mono fun e w' h => ⟨h.1, h.2.symm⟩))))
  go_wp2
  go_ret
  exact ⟨rfl, Below.drewN ((Below.refl _ _).alloc (Nat.le_refl _) _) _⟩
theorem qValid_3 (r : GRat) (w : World) (h1 : r.num.size ≤ 500000000000) (h2 : r.den.size ≤ 500000000000) (c1 : natStr (strVal r.num) = r.num) (c2 : natStr (strVal r.den) = r.den) (h : r.num.size = 0) :
    Calls Tryz.prog 126 #[vRat r] w fun e w' => e = .returned (.bool (!r.neg && decide (r.den.size = 0))) ∧ Below w.heap.size w w' := by
  have N1 := hid (fun w => normalize_any r.num w (by unfold maxLen; omega))
  have N2 := hid (fun w => normalize_any r.den w (by unfold maxLen; omega))
  rw [c1] at N1
  rw [c2] at N2
  obtain ⟨neg, num, den⟩ := r
  simp only at *
  have hz : num = { data := #[] } := ByteArray.ext (Array.eq_empty_of_size_eq_zero h)
  subst hz
  unfold vRat
  simp only
  clear c1 c2 h h1
  cases neg
  · by_cases hd : den.size = 0
    · have hz : den = { data := #[] } := ByteArray.ext (Array.eq_empty_of_size_eq_zero hd)
      subst hz
      clear hd h2
      go_enter Tryz.func126, Tryz.ntmps126
      go_wp2
      go_quiet ((go_at_call 134; exact Calls.quiet_of_same ((N1.out _).mono fun e w' h => ⟨h.1, h.2.symm⟩)))
      go_wp2
      go_ret
      exact ⟨rfl, Below.drewN ((Below.refl _ _).alloc (Nat.le_refl _) _) _⟩
    have hne := num_ne hd
    have HR := hid (show (!false && decide (den.size = 0)) = false by simp [hd])
    rw [HR.out]
    clear hd h2
    go_enter Tryz.func126, Tryz.ntmps126
    go_wp2
    go_quiet ((first
      | (go_at_call_of 134 (Value.string { data := #[] }); exact Calls.quiet_of_same ((N1.out _).mono fun e w' h => ⟨h.1, h.2.symm⟩))
      | (go_at_call_of 134 (Value.string den); exact Calls.quiet_of_same ((N2.out _).mono fun e w' h => ⟨h.1, h.2.symm⟩))))
    go_wp2
    go_ret
    exact ⟨rfl, Below.drewN ((Below.refl _ _).alloc (Nat.le_refl _) _) _⟩
  have HR := hid (show (!true && decide (den.size = 0)) = false by simp)
  rw [HR.out]
  clear h2
  go_enter Tryz.func126, Tryz.ntmps126
  go_wp2
  go_quiet ((first
    | (go_at_call_of 134 (Value.string { data := #[] }); exact Calls.quiet_of_same ((N1.out _).mono fun e w' h => ⟨h.1, h.2.symm⟩))
    | (go_at_call_of 134 (Value.string den); exact Calls.quiet_of_same ((N2.out _).mono fun e w' h => ⟨h.1, h.2.symm⟩))))
  go_wp2
  go_ret
  exact ⟨rfl, Below.drewN ((Below.refl _ _).alloc (Nat.le_refl _) _) _⟩
end Go.Proofs.YtokmkopihhnggaaGreatDoor
end
section
/- natural: Compare: walked. -/
namespace Go.Proofs.YtokmkopihhnggaaGreatDoor
open Go.RowKit
theorem compareBytes_eq : ∀ (l r : List UInt8), l.length = r.length → Lib.compareBytes l r = natCmp (bytesVal l) (bytesVal r)
  | [], [], _ => by simp [Lib.compareBytes, natCmp, bytesVal]
  | [], _ :: _, h => by simp at h
  | _ :: _, [], h => by simp at h
  | a :: l, b :: r, h => by
    have hl : l.length = r.length := by simpa using h
    have ih := compareBytes_eq l r hl
    have h1 := bytesVal_lt l
    have h2 := bytesVal_lt r
    simp only [Lib.compareBytes]
    rw [ih, bytesVal_cons, bytesVal_cons, hl]
    rw [hl] at h1
    have ha : (a < b) ↔ a.toNat < b.toNat := UInt8.lt_iff_toNat_lt
    have hb : (b < a) ↔ b.toNat < a.toNat := UInt8.lt_iff_toNat_lt
    generalize 256 ^ r.length = P at *
    generalize bytesVal l = x at *
    generalize bytesVal r = y at *
    by_cases c1 : a.toNat < b.toNat
    · rw [if_pos (ha.2 c1)]
      have := Nat.mul_le_mul_right P (show a.toNat + 1 ≤ b.toNat from c1)
      rw [Nat.add_mul] at this
      unfold natCmp
      rw [if_pos (by omega)]
    rw [if_neg (fun h => c1 (ha.1 h))]
    by_cases c2 : b.toNat < a.toNat
    · rw [if_pos (hb.2 c2)]
      have := Nat.mul_le_mul_right P (show b.toNat + 1 ≤ a.toNat from c2)
      rw [Nat.add_mul] at this
      unfold natCmp
      rw [if_neg (by omega), if_pos (by omega)]
    rw [if_neg (fun h => c2 (hb.1 h))]
    have : a.toNat = b.toNat := by omega
    rw [this]
    generalize b.toNat * P = q
    unfold natCmp
    simp only [Nat.add_lt_add_iff_left]
theorem compare_natStr {x y : Nat} (h : (natStr x).size = (natStr y).size) : Lib.compareBytes (natStr x).data.toList (natStr y).data.toList = natCmp x y := by
  rw [natStr_size, natStr_size] at h
  have := compareBytes_eq (natBytes x) (natBytes y) h
  rw [bytesVal_natBytes, bytesVal_natBytes] at this
  simpa [natStr] using this
theorem natBytes_mono {x y : Nat} (h : x ≤ y) : (natBytes x).length ≤ (natBytes y).length := natBytes_len_le (Nat.lt_of_le_of_lt h (natBytes_lt y))
theorem sign_natStr {x y : Nat} (h : (natStr x).size ≠ (natStr y).size) : signZ (((natStr x).size : Int) - ((natStr y).size : Int)) = natCmp x y := by
  rw [natStr_size, natStr_size] at *
  unfold signZ natCmp
  by_cases c : x < y
  · have := natBytes_mono (Nat.le_of_lt c)
    rw [if_pos c, if_pos (by omega)]
  have := natBytes_mono (Nat.le_of_not_lt c)
  rw [if_neg c, if_neg (by omega)]
  by_cases d : y < x
  · rw [if_pos d]; try rw [if_pos (by omega)]
  exfalso
  have : x = y := by omega
  subst this
  exact h rfl
theorem natStr_strVal_size (s : ByteArray) : (natStr (strVal s)).size ≤ s.size := by rw [natStr_size]; exact natBytes_len_le (strVal_lt s)
set_option maxRecDepth 100000 in
theorem Compare_any (a b : ByteArray) (w : World) (ha : a.size ≤ maxLen) (hb : b.size ≤ maxLen) :
    Calls Tryz.prog 84 #[.string a, .string b] w fun e w' => e = .returned (.int .i64 (natCmp (strVal a) (strVal b))) ∧ w = w' := by
  have H1 := hid (normalize_any a w ha)
  have H2 := hid (normalize_any b w hb)
  have sa := natStr_strVal_size a
  have sb := natStr_strVal_size b
  have hmx : (maxLen : Nat) ≤ 9223372036854775807 := by unfold maxLen; omega
  have hsa : (natStr (strVal a)).size ≤ 9223372036854775807 := by omega
  have hsb : (natStr (strVal b)).size ≤ 9223372036854775807 := by omega
  by_cases h : (natStr (strVal a)).size = (natStr (strVal b)).size
  · have HC := hid (Tryz.strings_Compare (natStr (strVal a)) (natStr (strVal b)) w)
    rw [compare_natStr h] at HC
    generalize natCmp (strVal a) (strVal b) = c at *
    generalize natStr (strVal a) = x at *
    generalize natStr (strVal b) = y at *
    have hxy : ¬ ((x.size : Int) ≠ (y.size : Int)) := by omega
    clear sa sb ha hb hmx
    go_enter Tryz.func84, Tryz.ntmps84
    go_wp2_with fail
    refine Calls.mono H1.out ?_
    rintro e w1 ⟨rfl, rfl⟩
    go_wp2_with fail
    refine Calls.mono H2.out ?_
    rintro e w1 ⟨rfl, rfl⟩
    go_wp2_with fail
    refine Calls.mono HC.out ?_
    rintro e w1 ⟨rfl, rfl⟩
    go_wp2
    go_ret
    exact ⟨rfl, rfl⟩
  have HC := hid (sign_any (((natStr (strVal a)).size : Int) - ((natStr (strVal b)).size : Int)) w)
  rw [sign_natStr h] at HC
  generalize natCmp (strVal a) (strVal b) = c at *
  generalize natStr (strVal a) = x at *
  generalize natStr (strVal b) = y at *
  have hxy : ((x.size : Int) ≠ (y.size : Int)) := by omega
  clear sa sb ha hb hmx h
  go_enter Tryz.func84, Tryz.ntmps84
  go_wp2_with fail
  refine Calls.mono H1.out ?_
  rintro e w1 ⟨rfl, rfl⟩
  go_wp2_with fail
  refine Calls.mono H2.out ?_
  rintro e w1 ⟨rfl, rfl⟩
  go_wp2_with fail
  refine Calls.mono HC.out ?_
  rintro e w1 ⟨rfl, rfl⟩
  go_wp2
  go_ret
  exact ⟨rfl, rfl⟩
end Go.Proofs.YtokmkopihhnggaaGreatDoor
end
section
/- rational: Valid, clean: walked. -/
namespace Go.Proofs.YtokmkopihhnggaaGreatDoor
open Go.RowKit
theorem natStr_ne1 {n : Nat} (h : n ≠ 1) : natStr n ≠ { data := #[1] } := by
  intro e; rw [← natStr_one] at e; exact h (natStr_inj e)
theorem qValid_4 (r : GRat) (w : World) (h1 : r.num.size ≤ 500000000000) (h2 : r.den.size ≤ 500000000000) (c1 : natStr (strVal r.num) = r.num) (c2 : natStr (strVal r.den) = r.den) (h : ¬ r.num.size = 0) :
    Calls Tryz.prog 126 #[vRat r] w fun e w' => e = .returned (.bool (decide (r.den.size = 0) || (decide (strVal r.den ≠ 1) && decide (Nat.gcd (strVal r.num) (strVal r.den) = 1)))) ∧ Below w.heap.size w w' := by
  have N1 := hid (fun w => normalize_any r.num w (by unfold maxLen; omega))
  have N2 := hid (fun w => normalize_any r.den w (by unfold maxLen; omega))
  rw [c1] at N1
  rw [c2] at N2
  have G := hid (fun w => GCD_any r.num r.den w h1 h2)
  obtain ⟨neg, num, den⟩ := r
  simp only at *
  have hne := num_ne h
  unfold vRat
  simp only
  by_cases hd : den.size = 0
  · have hz : den = { data := #[] } := ByteArray.ext (Array.eq_empty_of_size_eq_zero hd)
    subst hz
    clear hd h2 c1 c2 h h1 G
    go_enter Tryz.func126, Tryz.ntmps126
    go_wp2
    go_quiet ((first
      | (go_at_call_of 134 (Value.string num); exact Calls.quiet_of_same ((N1.out _).mono fun e w' h => ⟨h.1, h.2.symm⟩))
      | (go_at_call_of 134 (Value.string { data := #[] }); exact Calls.quiet_of_same ((N2.out _).mono fun e w' h => ⟨h.1, h.2.symm⟩))))
    go_wp2
    go_ret
    exact ⟨rfl, Below.drewN ((Below.refl _ _).alloc (Nat.le_refl _) _) _⟩
  have hne2 := num_ne hd
  by_cases ho : strVal den = 1
  · rw [ho, natStr_one] at c2
    subst c2
    have HR := hid (show (decide (({ data := #[1] } : ByteArray).size = 0) || (decide (strVal { data := #[1] } ≠ 1) && decide (Nat.gcd (strVal num) (strVal { data := #[1] }) = 1))) = false by rw [ho]; simp only [ne_eq, not_true, decide_false, Bool.false_and, Bool.or_false]; exact decide_eq_false hd)
    rw [HR.out]
    clear hd h2 c1 h h1 G ho hne2
    go_enter Tryz.func126, Tryz.ntmps126
    go_wp2
    go_quiet ((first
      | (go_at_call_of 134 (Value.string num); exact Calls.quiet_of_same ((N1.out _).mono fun e w' h => ⟨h.1, h.2.symm⟩))
      | (go_at_call_of 134 (Value.string { data := #[1] }); exact Calls.quiet_of_same ((N2.out _).mono fun e w' h => ⟨h.1, h.2.symm⟩))))
    go_wp2
    go_ret
    exact ⟨rfl, Below.drewN ((Below.refl _ _).alloc (Nat.le_refl _) _) _⟩
  have hn1 := str_ne1 (s := den) (fun e => ho (by rw [e, ← natStr_one]; exact strVal_natStr 1))
  by_cases hg : Nat.gcd (strVal num) (strVal den) = 1
  · rw [hg, natStr_one] at G
    have HR := hid (show (decide (den.size = 0) || (decide (strVal den ≠ 1) && decide (Nat.gcd (strVal num) (strVal den) = 1))) = true by simp [ho, hg])
    rw [HR.out]
    clear hd h2 c1 c2 h h1 ho hg
    go_enter Tryz.func126, Tryz.ntmps126
    go_wp2
    go_quiet ((first
      | (go_at_call_of 134 (Value.string num); exact Calls.quiet_of_same ((N1.out _).mono fun e w' h => ⟨h.1, h.2.symm⟩))
      | (go_at_call_of 134 (Value.string den); exact Calls.quiet_of_same ((N2.out _).mono fun e w' h => ⟨h.1, h.2.symm⟩))))
    go_wp2_with fail
    refine Calls.mono (G.out _) ?_
    rintro e w1 ⟨rfl, hb1⟩
    go_wp2
    go_ret
    exact ⟨rfl, Below.step (Below.drewN ((Below.refl _ _).alloc (Nat.le_refl _) _) _) hb1⟩
  have hn3 := str_ne1 (natStr_ne1 hg)
  have HR := hid (show (decide (den.size = 0) || (decide (strVal den ≠ 1) && decide (Nat.gcd (strVal num) (strVal den) = 1))) = false by simp [hd, hg])
  rw [HR.out]
  generalize natStr (Nat.gcd (strVal num) (strVal den)) = gs at *
  clear hd h2 c1 c2 h h1 ho hg HR
  go_enter Tryz.func126, Tryz.ntmps126
  go_wp2
  go_quiet ((first
    | (go_at_call_of 134 (Value.string num); exact Calls.quiet_of_same ((N1.out _).mono fun e w' h => ⟨h.1, h.2.symm⟩))
    | (go_at_call_of 134 (Value.string den); exact Calls.quiet_of_same ((N2.out _).mono fun e w' h => ⟨h.1, h.2.symm⟩))))
  go_wp2_with fail
  refine Calls.mono (G.out _) ?_
  rintro e w1 ⟨rfl, hb1⟩
  go_wp2
  go_ret
  exact ⟨rfl, Below.step (Below.drewN ((Below.refl _ _).alloc (Nat.le_refl _) _) _) hb1⟩
theorem qValid_any (r : GRat) (w : World) (h1 : r.num.size ≤ 500000000000) (h2 : r.den.size ≤ 500000000000) :
    Calls Tryz.prog 126 #[vRat r] w fun e w' => e = .returned (.bool (gValid r)) ∧ Below w.heap.size w w' := by
  by_cases c1 : natStr (strVal r.num) = r.num
  · by_cases c2 : natStr (strVal r.den) = r.den
    · by_cases h : r.num.size = 0
      · rw [gValid_3 c1 c2 h]; exact qValid_3 r w h1 h2 c1 c2 h
      rw [gValid_4 c1 c2 h]; exact qValid_4 r w h1 h2 c1 c2 h
    rw [gValid_2 c2]; exact qValid_2 r w h1 h2 c1 c2
  rw [gValid_1 c1]; exact qValid_1 r w h1 c1
theorem qclean_any (r : GRat) (w : World) (h1 : r.num.size ≤ 500000000000) (h2 : r.den.size ≤ 500000000000) :
    Calls Tryz.prog 78 #[vRat r] w fun e w' => e = .returned (vRat (enc (qOf r))) ∧ Below w.heap.size w w' := by
  have V := hid (fun w => qValid_any r w h1 h2)
  have hx0 := hid (Bx2.new w r gZ)
  clear h1 h2
  by_cases h : gValid r = true
  · rw [qOf_ok h]
    rw [h] at V
    unfold vRat
    clear h
    go_enter Tryz.func78, Tryz.ntmps78
    go_wp2_with fail
    refine Calls.mono (V.out _) ?_
    rintro e w1 ⟨rfl, hb1⟩
    have hx1 := hx0.out.next hb1
    obtain ⟨x0, x1, x2, x3, x4⟩ := hx1.1.facts
    obtain ⟨t0, t1, t2, t3, t4⟩ := hx1.2.1.facts
    go_wp2
    refine ret_blk3 (hx1.ret _).1 (fun W' c0 c1 c2 => by simp [results, Tryz.results78, go_sem, c0, c1, c2]) rfl ⟨rfl, (hx1.ret _).2⟩
  have h' : gValid r = false := by simpa using h
  rw [qOf_bad h', ← gZ_enc]
  rw [h'] at V
  unfold vRat
  clear h h'
  go_enter Tryz.func78, Tryz.ntmps78
  go_wp2_with fail
  refine Calls.mono (V.out _) ?_
  rintro e w1 ⟨rfl, hb1⟩
  have hx1 := hx0.out.next hb1
  obtain ⟨t0, t1, t2, t3, t4⟩ := hx1.2.1.facts
  go_wp2
  refine ret_blk3 (hx1.ret gZ).1 (fun W' c0 c1 c2 => by simp [results, Tryz.results78, go_sem, c0, c1, c2]) rfl ⟨rfl, (hx1.ret gZ).2⟩
end Go.Proofs.YtokmkopihhnggaaGreatDoor
end
section
/- insolvencyref1: Valid, Fix: walked. -/
namespace Go.Proofs.YtokmkopihhnggaaGreatDoor
open Go.RowKit
end Go.Proofs.YtokmkopihhnggaaGreatDoor
end
section
/- rational: den, signOf, negate, magnitude: walked. -/
namespace Go.Proofs.YtokmkopihhnggaaGreatDoor
open Go.RowKit
theorem qden_enc (q : Rat) (w : World) : Calls Tryz.prog 86 #[vRat (enc q)] w fun e w' => e = .returned (.string (natStr q.den)) ∧ Below w.heap.size w w' := by
  by_cases h : q.den = 1
  · have e1 : (enc q).den = { data := #[] } := by unfold enc; simp only [h, if_true]; rfl
    rw [h, natStr_one]
    unfold vRat
    rw [e1]
    generalize enc q = a at *
    clear h e1
    go_enter Tryz.func86, Tryz.ntmps86
    go_wp2
    go_ret
    exact ⟨rfl, (Below.refl _ _).alloc (Nat.le_refl _) _⟩
  have e1 : (enc q).den = natStr q.den := by unfold enc; simp only [h, if_false]
  have hne := num_ne (natStr_ne q.den_nz)
  unfold vRat
  rw [e1]
  generalize natStr q.den = d at *
  generalize enc q = a at *
  clear h e1
  go_enter Tryz.func86, Tryz.ntmps86
  go_wp2
  go_ret
  exact ⟨rfl, (Below.refl _ _).alloc (Nat.le_refl _) _⟩
theorem qsignOf_any (r : GRat) (w : World) : Calls Tryz.prog 83 #[vRat r] w fun e w' => e = .returned (.int .i64 (sgnZ r)) ∧ Below w.heap.size w w' := by
  unfold vRat
  by_cases h : r.num.size = 0
  · have hz : r.num = { data := #[] } := ByteArray.ext (Array.eq_empty_of_size_eq_zero h)
    have hR := hid (show sgnZ r = 0 by unfold sgnZ; rw [if_pos h])
    rw [hz]
    clear h hz
    go_enter Tryz.func83, Tryz.ntmps83
    go_wp2
    go_ret
    exact ⟨ret_int hR.out.symm, (Below.refl _ _).alloc (Nat.le_refl _) _⟩
  have hz := num_ne h
  cases hn : r.neg with
  | true =>
    have hR := hid (show sgnZ r = -1 by unfold sgnZ; rw [if_neg h, if_pos hn])
    clear h hn
    go_enter Tryz.func83, Tryz.ntmps83
    go_wp2
    go_ret
    exact ⟨ret_int hR.out.symm, (Below.refl _ _).alloc (Nat.le_refl _) _⟩
  | false =>
    have hR := hid (show sgnZ r = 1 by unfold sgnZ; rw [if_neg h, if_neg (by rw [hn]; decide)])
    clear h hn
    go_enter Tryz.func83, Tryz.ntmps83
    go_wp2
    go_ret
    exact ⟨ret_int hR.out.symm, (Below.refl _ _).alloc (Nat.le_refl _) _⟩
theorem qnegate_any (r : GRat) (w : World) (hv : r.num.size = 0 → r.neg = false) : Calls Tryz.prog 89 #[vRat r] w fun e w' => e = .returned (vRat (gOpp r)) ∧ Below w.heap.size w w' := by
  by_cases h : r.num.size = 0
  · have hz : r.num = { data := #[] } := ByteArray.ext (Array.eq_empty_of_size_eq_zero h)
    have hn := hv h
    have hR := hid (show gOpp r = r by unfold gOpp; rw [if_pos h])
    rw [hR.out]
    unfold vRat
    rw [hz, hn]
    clear h hz hn hv
    go_enter Tryz.func89, Tryz.ntmps89
    go_wp2
    go_returns
    exact ⟨rfl, ((Below.refl _ _).alloc (Nat.le_refl _) _).alloc (by simp) _⟩
  have hz := num_ne h
  have hR := hid (show gOpp r = ⟨!r.neg, r.num, r.den⟩ by unfold gOpp; rw [if_neg h])
  rw [hR.out]
  unfold vRat
  clear h hv
  cases hn : r.neg
  · clear hn
    go_enter Tryz.func89, Tryz.ntmps89
    go_wp2
    go_returns
    exact ⟨rfl, ((Below.refl _ _).alloc (Nat.le_refl _) _).alloc (by simp) _⟩
  clear hn
  go_enter Tryz.func89, Tryz.ntmps89
  go_wp2
  go_returns
  exact ⟨rfl, ((Below.refl _ _).alloc (Nat.le_refl _) _).alloc (by simp) _⟩
theorem qmagnitude_any (n : Int) (w : World) (h0 : -9223372036854775808 ≤ n) (h1 : n ≤ 9223372036854775807) : Calls Tryz.prog 104 #[.int .i64 n] w fun e w' => e = .returned (.string (natStr n.natAbs)) ∧ Below w.heap.size w w' := by
  have F := hid (fun w => fromUint_any n.natAbs w (by omega))
  by_cases h : n < 0
  · have e1 : IntKind.u64.wrap (-(IntKind.u64.wrap n)) = (n.natAbs : Int) := by rw [IntKind.wrap_u64, IntKind.wrap_u64]; omega
    go_enter Tryz.func104, Tryz.ntmps104
    go_wp2_with fail
    refine Calls.mono (F.out _) ?_
    rintro e w1 ⟨rfl, hb1⟩
    go_wp2
    go_ret
    exact ⟨rfl, hb1⟩
  have e1 : n = (n.natAbs : Int) := by omega
  have F2 := hid (fun w => F.out w)
  rw [← e1] at F2
  clear F e1
  go_enter Tryz.func104, Tryz.ntmps104
  go_wp2_with fail
  refine Calls.mono (F2.out _) ?_
  rintro e w1 ⟨rfl, hb1⟩
  go_wp2
  go_ret
  exact ⟨rfl, hb1⟩
end Go.Proofs.YtokmkopihhnggaaGreatDoor
end
section
/- rational: reduced, Int, Sign; insolvencyref1: Int, Make, Fraction: walked. -/
namespace Go.Proofs.YtokmkopihhnggaaGreatDoor
open Go.RowKit
theorem natStr_0 : natStr 0 = { data := #[] } := natStr_e
theorem ret_blk3t {P : Program} {fn : Func} {R : Ending → World → Prop} {a : Act} {W : World} {b T : Nat} {x y z : Value} {t : Bool} (h : Blk3 W b T x y z)
    (hres : ∀ W', W'.cell? ⟨b, 0, none⟩ = some x → W'.cell? ⟨b, 1, none⟩ = some y → W'.cell? ⟨b, 2, none⟩ = some z → (results fn a.tmps).run P W' = .ok (.tuple #[.agg #[x, y, z], .bool t]) W') (hd : a.defers = []) (hR : R (.returned (.tuple #[.agg #[x, y, z], .bool t])) W) : bodyPost P fn R .ret a W :=
  bodyPost_ret (hres W h.cells.1 h.cells.2.1 h.cells.2.2.1) hd hR
set_option maxRecDepth 100000 in
set_option maxHeartbeats 2000000 in
theorem qreduced_any (neg : Bool) (a b : ByteArray) (w : World) (ha : a.size ≤ 400000000000) (hb : b.size ≤ 400000000000) (hd : 0 < strVal b) :
    Calls Tryz.prog 88 #[.bool neg, .string a, .string b] w fun e w' => e = .returned (vRat (enc (mkRat (sg neg (strVal a)) (strVal b)))) ∧ Below w.heap.size w w' := by
  have N1 := hid (fun w => normalize_any a w (by unfold maxLen; omega))
  have N2 := hid (fun w => normalize_any b w (by unfold maxLen; omega))
  have sa := natStr_strVal_size a
  have sb := natStr_strVal_size b
  have hx0 := hid (Bx1.new w)
  generalize strVal a = N at *
  generalize strVal b = D at *
  by_cases hN : N = 0
  · subst hN
    rw [sg_zero, Rat.zero_mkRat, ← gZ_enc]
    rw [natStr_0] at N1
    unfold vRat
    clear ha hb sa sb hd
    generalize natStr D = d at *
    go_enter Tryz.func88, Tryz.ntmps88
    go_wp2_with fail
    refine Calls.mono (N1.out _) ?_
    rintro e w1 ⟨rfl, rfl⟩
    go_wp2_with fail
    refine Calls.mono (N2.out _) ?_
    rintro e w1 ⟨rfl, rfl⟩
    go_wp2
    go_returns
    exact ⟨rfl, (Below.refl _ _).alloc (Nat.le_refl _) _⟩
  have hE := enc_mkRat (neg := neg) (n := N) (d := D) hN (by omega)
  rw [hE]
  unfold vRat
  simp only
  have hn1 := num_ne (natStr_ne hN)
  obtain ⟨g, hg⟩ : ∃ g, g = Nat.gcd N D := ⟨_, rfl⟩
  have hg0 : 0 < g := by rw [hg]; exact Nat.gcd_pos_of_pos_right _ hd
  have G := hid (fun w => GCD_any (natStr N) (natStr D) w (by omega) (by omega))
  simp only [strVal_natStr] at G
  rw [← hg] at G ⊢
  have sg' : (natStr g).size ≤ 500000000000 := by
    have : (natStr g).size ≤ (natStr N).size := by
      rw [natStr_size, natStr_size]; exact natBytes_mono (by rw [hg]; exact Nat.gcd_le_left _ (by omega))
    omega
  have D1 := hid (fun w => Divide_ok (natStr N) (natStr g) w (by omega) sg' (by rw [strVal_natStr]; exact hg0))
  have D2 := hid (fun w => Divide_ok (natStr D) (natStr g) w (by omega) sg' (by rw [strVal_natStr]; exact hg0))
  simp only [strVal_natStr] at D1 D2
  by_cases hD : D = 1
  · subst hD
    have hg1 : g = 1 := by rw [hg]; exact Nat.gcd_one_right N
    subst hg1
    have HR := hid (show natStr (N / 1) = natStr N ∧ (if 1 / 1 = 1 then bEmpty else natStr (1 / 1)) = ({ data := #[] } : ByteArray) from ⟨by rw [Nat.div_one], rfl⟩)
    rw [HR.out.1, HR.out.2]
    rw [natStr_one] at N2
    generalize natStr N = n at *
    clear G D1 D2 hE hg hg0 hd sa sb sg' ha hb hN HR
    go_enter Tryz.func88, Tryz.ntmps88
    go_wp2_with fail
    refine Calls.mono (N1.out _) ?_
    rintro e w1 ⟨rfl, rfl⟩
    go_wp2_with fail
    refine Calls.mono (N2.out _) ?_
    rintro e w1 ⟨rfl, rfl⟩
    go_wp2
    go_returns
    exact ⟨rfl, (Below.refl _ _).alloc (Nat.le_refl _) _⟩
  have hd1 := str_ne1 (natStr_ne1 hD)
  by_cases hg1 : g = 1
  · have HR := hid (show natStr (N / g) = natStr N ∧ (if D / g = 1 then bEmpty else natStr (D / g)) = natStr D from ⟨by rw [hg1, Nat.div_one], by rw [hg1, Nat.div_one, if_neg hD]⟩)
    rw [HR.out.1, HR.out.2]
    rw [hg1, natStr_one] at G
    generalize natStr N = n at *
    generalize natStr D = d at *
    clear D1 D2 hE hg hg0 hd sa sb sg' ha hb hN HR hD hg1
    go_enter Tryz.func88, Tryz.ntmps88
    go_wp2_with fail
    refine Calls.mono (N1.out _) ?_
    rintro e w1 ⟨rfl, rfl⟩
    go_wp2_with fail
    refine Calls.mono (N2.out _) ?_
    rintro e w1 ⟨rfl, rfl⟩
    go_wp2_with fail
    refine Calls.mono (G.out _) ?_
    rintro e w1 ⟨rfl, hb1⟩
    have hx1 := hx0.out.next hb1
    obtain ⟨x0, x1, x2, x3, x4⟩ := hx1.1.facts
    go_wp2
    have S := hx1.ret ⟨neg, n, d⟩
    dsimp only at S
    refine ret_blk3 S.1 (fun W' c0 c1 c2 => by simp [results, Tryz.results88, go_sem, c0, c1, c2]) rfl ⟨rfl, S.2⟩
  have hgs := str_ne1 (natStr_ne1 hg1)
  obtain ⟨n', hn'⟩ : ∃ n', n' = natStr (N / g) := ⟨_, rfl⟩
  rw [← hn'] at D1 ⊢
  by_cases hq : D / g = 1
  · rw [hq, natStr_one] at D2
    have HR := hid (show (if D / g = 1 then bEmpty else natStr (D / g)) = ({ data := #[] } : ByteArray) by rw [if_pos hq]; rfl)
    rw [HR.out]
    generalize natStr (N % g) = n2 at *
    generalize natStr (D % g) = n3 at *
    generalize natStr N = n at *
    generalize natStr D = d at *
    generalize natStr g = gs at *
    clear hE hg hg0 hd sa sb sg' ha hb hN HR hD hg1 hq hn'
    go_enter Tryz.func88, Tryz.ntmps88
    go_wp2_with fail
    refine Calls.mono (N1.out _) ?_
    rintro e w1 ⟨rfl, rfl⟩
    go_wp2_with fail
    refine Calls.mono (N2.out _) ?_
    rintro e w1 ⟨rfl, rfl⟩
    go_wp2_with fail
    refine Calls.mono (G.out _) ?_
    rintro e w1 ⟨rfl, hb1⟩
    go_wp2_with fail
    refine Calls.mono (D1.out _) ?_
    rintro e w2 ⟨rfl, hb2⟩
    go_wp2_with fail
    refine Calls.mono (D2.out _) ?_
    rintro e w3 ⟨rfl, hb3⟩
    have hx1 := ((hx0.out.next hb1).next hb2).next hb3
    obtain ⟨x0, x1, x2, x3, x4⟩ := hx1.1.facts
    go_wp2
    have S := hx1.ret ⟨neg, n', { data := #[] }⟩
    dsimp only at S
    refine ret_blk3 S.1 (fun W' c0 c1 c2 => by simp [results, Tryz.results88, go_sem, c0, c1, c2]) rfl ⟨rfl, S.2⟩
  have hqs := str_ne1 (natStr_ne1 hq)
  have HR := hid (show (if D / g = 1 then bEmpty else natStr (D / g)) = natStr (D / g) by rw [if_neg hq])
  rw [HR.out]
  generalize natStr (N % g) = n2 at *
  generalize natStr (D % g) = n3 at *
  generalize natStr (D / g) = d' at *
  generalize natStr N = n at *
  generalize natStr D = d at *
  generalize natStr g = gs at *
  clear hE hg hg0 hd sa sb sg' ha hb hN HR hD hg1 hq hn'
  go_enter Tryz.func88, Tryz.ntmps88
  go_wp2_with fail
  refine Calls.mono (N1.out _) ?_
  rintro e w1 ⟨rfl, rfl⟩
  go_wp2_with fail
  refine Calls.mono (N2.out _) ?_
  rintro e w1 ⟨rfl, rfl⟩
  go_wp2_with fail
  refine Calls.mono (G.out _) ?_
  rintro e w1 ⟨rfl, hb1⟩
  go_wp2_with fail
  refine Calls.mono (D1.out _) ?_
  rintro e w2 ⟨rfl, hb2⟩
  go_wp2_with fail
  refine Calls.mono (D2.out _) ?_
  rintro e w3 ⟨rfl, hb3⟩
  have hx1 := ((hx0.out.next hb1).next hb2).next hb3
  obtain ⟨x0, x1, x2, x3, x4⟩ := hx1.1.facts
  go_wp2
  have S := hx1.ret ⟨neg, n', d'⟩
  dsimp only at S
  refine ret_blk3 S.1 (fun W' c0 c1 c2 => by simp [results, Tryz.results88, go_sem, c0, c1, c2]) rfl ⟨rfl, S.2⟩
end Go.Proofs.YtokmkopihhnggaaGreatDoor
end
section
/- rational: Int, Sign; insolvencyref1: Int, Make, Fraction, Sign of a Fix: walked. -/
namespace Go.Proofs.YtokmkopihhnggaaGreatDoor
open Go.RowKit
theorem mkRat_one (z : Int) : mkRat z 1 = (z : Rat) := Rat.mkRat_self (z : Rat)
set_option maxRecDepth 100000 in
set_option maxHeartbeats 2000000 in
theorem qInt_any (n : Int) (w : World) (h0 : -9223372036854775808 ≤ n) (h1 : n ≤ 9223372036854775807) : Calls Tryz.prog 52 #[.int .i64 n] w fun e w' => e = .returned (vRat (enc (n : Rat))) ∧ Below w.heap.size w w' := by
  have M := hid (fun w => qmagnitude_any n w h0 h1)
  have hs : (natStr n.natAbs).size ≤ 8 := by rw [natStr_size]; exact natBytes_len_le (by omega)
  have R := hid (fun w => qreduced_any (decide (n < 0)) (natStr n.natAbs) { data := #[1] } w (by omega) (by show 1 ≤ _; decide) (by decide))
  have e1 : strVal { data := #[1] } = 1 := by rw [← natStr_one, strVal_natStr]
  rw [strVal_natStr, e1, sg_of, mkRat_one] at R
  have hx0 := hid (Bx1.new w)
  generalize enc (n : Rat) = a at *
  generalize natStr n.natAbs = s at *
  unfold vRat
  clear e1 hs
  go_enter Tryz.func52, Tryz.ntmps52
  go_wp2_with fail
  refine Calls.mono (M.out _) ?_
  rintro e w1 ⟨rfl, hb1⟩
  go_wp2_with fail
  refine Calls.mono (R.out _) ?_
  rintro e w2 ⟨rfl, hb2⟩
  unfold vRat
  have hx1 := (hx0.out.next hb1).next hb2
  obtain ⟨x0, x1, x2, x3, x4⟩ := hx1.1.facts
  go_wp2
  refine ret_blk3 (hx1.ret _).1 (fun W' c0 c1 c2 => by simp [results, Tryz.results52, go_sem, c0, c1, c2]) rfl ⟨rfl, (hx1.ret _).2⟩
theorem qSign_any (r : GRat) (w : World) (h1 : r.num.size ≤ 500000000000) (h2 : r.den.size ≤ 500000000000) :
    Calls Tryz.prog 42 #[vRat r] w fun e w' => e = .returned (.int .i64 (qSgn (qOf r))) ∧ Below w.heap.size w w' := by
  have C := hid (fun w => qclean_any r w h1 h2)
  have S := hid (fun w => qsignOf_any (enc (qOf r)) w)
  rw [sgnZ_enc] at S
  generalize enc (qOf r) = a at *
  generalize qSgn (qOf r) = s at *
  unfold vRat
  clear h1 h2
  go_enter Tryz.func42, Tryz.ntmps42
  go_wp2_with fail
  refine Calls.mono (C.out _) ?_
  rintro e w1 ⟨rfl, hb1⟩
  go_wp2_with fail
  refine Calls.mono (S.out _) ?_
  rintro e w2 ⟨rfl, hb2⟩
  go_wp2
  go_ret
  exact ⟨rfl, Below.step (((Below.refl _ _).alloc (Nat.le_refl _) _).step hb1) hb2⟩
set_option maxRecDepth 100000 in
set_option maxHeartbeats 2000000 in
theorem rMake_ok (neg : Bool) (a b : ByteArray) (k : Nat) (w : World) (hk : k ≤ 400000000000) (ha : a.size ≤ k) (hb : b.size ≤ k) (hd : 0 < strVal b) :
    Calls Tryz.prog 143 #[.bool neg, .string a, .string b] w fun e w' => e = .returned (.tuple #[vRat (enc (mkRat (sg neg (strVal a)) (strVal b))), .bool true]) ∧ Below w.heap.size w w' := by
  have L1 := hid (fun w => cLimbs a w (by omega))
  have L2 := hid (fun w => cLimbs b w (by omega))
  have NA := hid (NB.str ha)
  have NB' := hid (NB.str hb)
  generalize strVal a = N at *
  generalize strVal b = D at *
  have R := hid (fun (w : World) (u v : Value) => rreduced_any neg u v N D k w NA.out NB'.out (by omega) hd)
  generalize enc (mkRat (sg neg N) D) = q at *
  have hx0 := hid (Bx1.new w)
  unfold vRat
  clear ha hb hk
  have HD := hid hd
  clear hd
  go_enter Tryz.func143, Tryz.ntmps143
  go_wp2_with fail
  refine Calls.mono (L2.out _) ?_
  rintro e w1 ⟨v, rfl, hv, hb1⟩
  obtain ⟨vb, voff, vm, vc, vx, rfl, hv2, hv3, hv4, hv5⟩ := hv.kind HD.out
  have hvm : 0 < vm := by omega
  clear hv2 hv3 hv5
  go_wp2_with fail
  refine Calls.mono (L1.out _) ?_
  rintro e w2 ⟨u, rfl, hu, hb2⟩
  go_wp2_with fail
  refine Calls.mono (R.out _ _ _ hu (hv.below hb2)) ?_
  rintro e w3 ⟨rfl, hb3⟩
  unfold vRat
  have hx1 := ((hx0.out.next hb1).next hb2).next hb3
  obtain ⟨x0, x1, x2, x3, x4⟩ := hx1.1.facts
  go_wp2
  refine ret_blk3t (hx1.ret q).1 (fun W' c0 c1 c2 => by simp [results, Tryz.results143, go_sem, c0, c1, c2]) rfl ⟨rfl, (hx1.ret _).2⟩
set_option maxRecDepth 100000 in
set_option maxHeartbeats 2000000 in
theorem rFraction_ok (a b : Nat) (w : World) (ha : a ≤ 9223372036854775807) (hb : b ≤ 9223372036854775807) (hd : 0 < b) :
    Calls Tryz.prog 90 #[.int .i64 a, .int .i64 b] w fun e w' => e = .returned (.tuple #[vRat (enc (mkRat (a : Int) b)), .bool true]) ∧ Below w.heap.size w w' := by
  have S1 := hid (fun w => size_any a w (by omega) (by omega))
  have S2 := hid (fun w => size_any b w (by omega) (by omega))
  have F1 := hid (fun w => rfromUint_any a w (by omega))
  have F2 := hid (fun w => rfromUint_any b w (by omega))
  have s1 : (natStr a).size ≤ 8 := by rw [natStr_size]; exact natBytes_len_le (by omega)
  have s2 : (natStr b).size ≤ 8 := by rw [natStr_size]; exact natBytes_len_le (by omega)
  have M := hid (fun w => rMake_ok false (natStr a) (natStr b) 8 w (by decide) s1 s2 (by rw [strVal_natStr]; exact hd))
  simp only [strVal_natStr] at M
  rw [show sg false a = (a : Int) from rfl] at M
  rw [Int.natAbs_natCast] at S1 S2
  generalize enc (mkRat (a : Int) b) = q at *
  have hx0 := hid (Bx1.new w)
  generalize natStr a = sa at *
  generalize natStr b = sb at *
  unfold vRat
  clear s1 s2
  go_enter Tryz.func90, Tryz.ntmps90
  go_wp2_with fail
  refine Calls.mono (S1.out _) ?_
  rintro e w1 ⟨rfl, rfl⟩
  go_wp2_with fail
  refine Calls.mono (F1.out _) ?_
  rintro e w1 ⟨rfl, hb1⟩
  go_wp2_with fail
  refine Calls.mono (S2.out _) ?_
  rintro e w2 ⟨rfl, rfl⟩
  go_wp2_with fail
  refine Calls.mono (F2.out _) ?_
  rintro e w2 ⟨rfl, hb2⟩
  go_wp2_with fail
  refine Calls.mono (M.out _) ?_
  rintro e w3 ⟨rfl, hb3⟩
  unfold vRat
  have hx1 := ((hx0.out.next hb1).next hb2).next hb3
  obtain ⟨x0, x1, x2, x3, x4⟩ := hx1.1.facts
  go_wp2
  refine ret_blk3t (hx1.ret q).1 (fun W' c0 c1 c2 => by simp [results, Tryz.results90, go_sem, c0, c1, c2]) rfl ⟨rfl, (hx1.ret _).2⟩
end Go.Proofs.YtokmkopihhnggaaGreatDoor
end
