/- natural: Compare: walked. -/
import Derived.Test.YtgmedcncbpdimaaDoorRat5M
import Derived.Test.YtgmedcncbpdimaaDoorKnuthM
import Derived.Test.YtgmedcncbpdimaaDoorVal1M
set_option linter.unusedVariables false
set_option linter.unusedSimpArgs false
section
/- natural: Compare: walked. -/
namespace Go.Proofs.YtgmedcncbpdimaaDoor
open Go.RowKit

theorem compareBytes_eq : ∀ (l r : List UInt8), l.length = r.length → Lib.compareBytes l r = natCmp (bytesVal l) (bytesVal r)
  | [], [], _ => by simp [Lib.compareBytes, natCmp, bytesVal]
  | [], _ :: _, h => by simp at h
  | _ :: _, [], h => by simp at h
  | a :: l, b :: r, h => by
    have hl : l.length = r.length := by simpa using h
    have ih := compareBytes_eq l r hl
    have h1 := bytesVal_lt l
    have h2 := bytesVal_lt r
    simp only [Lib.compareBytes]
    rw [ih, bytesVal_cons, bytesVal_cons, hl]
    rw [hl] at h1
    have ha : (a < b) ↔ a.toNat < b.toNat := UInt8.lt_iff_toNat_lt
    have hb : (b < a) ↔ b.toNat < a.toNat := UInt8.lt_iff_toNat_lt
    generalize 256 ^ r.length = P at *
    generalize bytesVal l = x at *
    generalize bytesVal r = y at *
    by_cases c1 : a.toNat < b.toNat
    · rw [if_pos (ha.2 c1)]
      have := Nat.mul_le_mul_right P (show a.toNat + 1 ≤ b.toNat from c1)
      rw [Nat.add_mul] at this
      unfold natCmp
      rw [if_pos (by omega)]
    · rw [if_neg (fun h => c1 (ha.1 h))]
      by_cases c2 : b.toNat < a.toNat
      · rw [if_pos (hb.2 c2)]
        have := Nat.mul_le_mul_right P (show b.toNat + 1 ≤ a.toNat from c2)
        rw [Nat.add_mul] at this
        unfold natCmp
        rw [if_neg (by omega), if_pos (by omega)]
      · rw [if_neg (fun h => c2 (hb.1 h))]
        have : a.toNat = b.toNat := by omega
        rw [this]
        generalize b.toNat * P = q
        unfold natCmp
        simp only [Nat.add_lt_add_iff_left]

theorem compare_natStr {x y : Nat} (h : (natStr x).size = (natStr y).size) : Lib.compareBytes (natStr x).data.toList (natStr y).data.toList = natCmp x y := by
  rw [natStr_size, natStr_size] at h
  have := compareBytes_eq (natBytes x) (natBytes y) h
  rw [bytesVal_natBytes, bytesVal_natBytes] at this
  simpa [natStr] using this

theorem natBytes_mono {x y : Nat} (h : x ≤ y) : (natBytes x).length ≤ (natBytes y).length := natBytes_len_le (Nat.lt_of_le_of_lt h (natBytes_lt y))

theorem sign_natStr {x y : Nat} (h : (natStr x).size ≠ (natStr y).size) : signZ (((natStr x).size : Int) - ((natStr y).size : Int)) = natCmp x y := by
  rw [natStr_size, natStr_size] at *
  unfold signZ natCmp
  by_cases c : x < y
  · have := natBytes_mono (Nat.le_of_lt c)
    rw [if_pos c, if_pos (by omega)]
  · have := natBytes_mono (Nat.le_of_not_lt c)
    rw [if_neg c, if_neg (by omega)]
    by_cases d : y < x
    · rw [if_pos d]; try rw [if_pos (by omega)]
    · exfalso
      have : x = y := by omega
      subst this
      exact h rfl

theorem natStr_strVal_size (s : ByteArray) : (natStr (strVal s)).size ≤ s.size := by rw [natStr_size]; exact natBytes_len_le (strVal_lt s)

set_option maxRecDepth 100000 in
theorem Compare_any (a b : ByteArray) (w : World) (ha : a.size ≤ maxLen) (hb : b.size ≤ maxLen) :
    Calls Tryd.prog 47 #[.string a, .string b] w fun e w' => e = .returned (.int .i64 (natCmp (strVal a) (strVal b))) ∧ w = w' := by
  have H1 := hid (normalize_any a w ha)
  have H2 := hid (normalize_any b w hb)
  have sa := natStr_strVal_size a
  have sb := natStr_strVal_size b
  have hmx : (maxLen : Nat) ≤ 9223372036854775807 := by unfold maxLen; omega
  have hsa : (natStr (strVal a)).size ≤ 9223372036854775807 := by omega
  have hsb : (natStr (strVal b)).size ≤ 9223372036854775807 := by omega
  by_cases h : (natStr (strVal a)).size = (natStr (strVal b)).size
  · have HC := hid (Tryd.strings_Compare (natStr (strVal a)) (natStr (strVal b)) w)
    rw [compare_natStr h] at HC
    generalize natCmp (strVal a) (strVal b) = c at *
    generalize natStr (strVal a) = x at *
    generalize natStr (strVal b) = y at *
    have hxy : ¬ ((x.size : Int) ≠ (y.size : Int)) := by omega
    clear sa sb ha hb hmx
    go_enter Tryd.func47, Tryd.ntmps47
    go_wp2_with fail
    refine Calls.mono H1.out ?_
    rintro e w1 ⟨rfl, rfl⟩
    go_wp2_with fail
    refine Calls.mono H2.out ?_
    rintro e w1 ⟨rfl, rfl⟩
    go_wp2_with fail
    refine Calls.mono HC.out ?_
    rintro e w1 ⟨rfl, rfl⟩
    go_wp2
    go_ret
    exact ⟨rfl, rfl⟩
  · have HC := hid (sign_any (((natStr (strVal a)).size : Int) - ((natStr (strVal b)).size : Int)) w)
    rw [sign_natStr h] at HC
    generalize natCmp (strVal a) (strVal b) = c at *
    generalize natStr (strVal a) = x at *
    generalize natStr (strVal b) = y at *
    have hxy : ((x.size : Int) ≠ (y.size : Int)) := by omega
    clear sa sb ha hb hmx h
    go_enter Tryd.func47, Tryd.ntmps47
    go_wp2_with fail
    refine Calls.mono H1.out ?_
    rintro e w1 ⟨rfl, rfl⟩
    go_wp2_with fail
    refine Calls.mono H2.out ?_
    rintro e w1 ⟨rfl, rfl⟩
    go_wp2_with fail
    refine Calls.mono HC.out ?_
    rintro e w1 ⟨rfl, rfl⟩
    go_wp2
    go_ret
    exact ⟨rfl, rfl⟩

end Go.Proofs.YtgmedcncbpdimaaDoor
end
section
/- rational: Valid, clean: walked. -/
namespace Go.Proofs.YtgmedcncbpdimaaDoor
open Go.RowKit

theorem natStr_ne1 {n : Nat} (h : n ≠ 1) : natStr n ≠ { data := #[1] } := by
  intro e; rw [← natStr_one] at e; exact h (natStr_inj e)

theorem qValid_4 (r : GRat) (w : World) (h1 : r.num.size ≤ 500000000000) (h2 : r.den.size ≤ 500000000000) (c1 : natStr (strVal r.num) = r.num) (c2 : natStr (strVal r.den) = r.den) (h : ¬ r.num.size = 0) :
    Calls Tryd.prog 62 #[vRat r] w fun e w' => e = .returned (.bool (decide (r.den.size = 0) || (decide (strVal r.den ≠ 1) && decide (Nat.gcd (strVal r.num) (strVal r.den) = 1)))) ∧ Below w.heap.size w w' := by
  have N1 := hid (fun w => normalize_any r.num w (by unfold maxLen; omega))
  have N2 := hid (fun w => normalize_any r.den w (by unfold maxLen; omega))
  rw [c1] at N1
  rw [c2] at N2
  have G := hid (fun w => GCD_any r.num r.den w h1 h2)
  obtain ⟨neg, num, den⟩ := r
  simp only at *
  have hne := num_ne h
  unfold vRat
  simp only
  by_cases hd : den.size = 0
  · have hz : den = { data := #[] } := ByteArray.ext (Array.eq_empty_of_size_eq_zero hd)
    subst hz
    clear hd h2 c1 c2 h h1 G
    go_enter Tryd.func62, Tryd.ntmps62
    go_wp2
    go_quiet ((first
      | (go_at_call_of 74 (Value.string num); exact Calls.quiet_of_same ((N1.out _).mono fun e w' h => ⟨h.1, h.2.symm⟩))
      | (go_at_call_of 74 (Value.string { data := #[] }); exact Calls.quiet_of_same ((N2.out _).mono fun e w' h => ⟨h.1, h.2.symm⟩))))
    go_wp2
    go_ret
    exact ⟨rfl, Below.drewN ((Below.refl _ _).alloc (Nat.le_refl _) _) _⟩
  · have hne2 := num_ne hd
    by_cases ho : strVal den = 1
    · rw [ho, natStr_one] at c2
      subst c2
      have HR := hid (show (decide (({ data := #[1] } : ByteArray).size = 0) || (decide (strVal { data := #[1] } ≠ 1) && decide (Nat.gcd (strVal num) (strVal { data := #[1] }) = 1))) = false by rw [ho]; simp only [ne_eq, not_true, decide_false, Bool.false_and, Bool.or_false]; exact decide_eq_false hd)
      rw [HR.out]
      clear hd h2 c1 h h1 G ho hne2
      go_enter Tryd.func62, Tryd.ntmps62
      go_wp2
      go_quiet ((first
        | (go_at_call_of 74 (Value.string num); exact Calls.quiet_of_same ((N1.out _).mono fun e w' h => ⟨h.1, h.2.symm⟩))
        | (go_at_call_of 74 (Value.string { data := #[1] }); exact Calls.quiet_of_same ((N2.out _).mono fun e w' h => ⟨h.1, h.2.symm⟩))))
      go_wp2
      go_ret
      exact ⟨rfl, Below.drewN ((Below.refl _ _).alloc (Nat.le_refl _) _) _⟩
    · have hn1 := str_ne1 (s := den) (fun e => ho (by rw [e, ← natStr_one]; exact strVal_natStr 1))
      by_cases hg : Nat.gcd (strVal num) (strVal den) = 1
      · rw [hg, natStr_one] at G
        have HR := hid (show (decide (den.size = 0) || (decide (strVal den ≠ 1) && decide (Nat.gcd (strVal num) (strVal den) = 1))) = true by simp [ho, hg])
        rw [HR.out]
        clear hd h2 c1 c2 h h1 ho hg
        go_enter Tryd.func62, Tryd.ntmps62
        go_wp2
        go_quiet ((first
          | (go_at_call_of 74 (Value.string num); exact Calls.quiet_of_same ((N1.out _).mono fun e w' h => ⟨h.1, h.2.symm⟩))
          | (go_at_call_of 74 (Value.string den); exact Calls.quiet_of_same ((N2.out _).mono fun e w' h => ⟨h.1, h.2.symm⟩))))
        go_wp2_with fail
        refine Calls.mono (G.out _) ?_
        rintro e w1 ⟨rfl, hb1⟩
        go_wp2
        go_ret
        exact ⟨rfl, Below.step (Below.drewN ((Below.refl _ _).alloc (Nat.le_refl _) _) _) hb1⟩
      · have hn3 := str_ne1 (natStr_ne1 hg)
        have HR := hid (show (decide (den.size = 0) || (decide (strVal den ≠ 1) && decide (Nat.gcd (strVal num) (strVal den) = 1))) = false by simp [hd, hg])
        rw [HR.out]
        generalize natStr (Nat.gcd (strVal num) (strVal den)) = gs at *
        clear hd h2 c1 c2 h h1 ho hg HR
        go_enter Tryd.func62, Tryd.ntmps62
        go_wp2
        go_quiet ((first
          | (go_at_call_of 74 (Value.string num); exact Calls.quiet_of_same ((N1.out _).mono fun e w' h => ⟨h.1, h.2.symm⟩))
          | (go_at_call_of 74 (Value.string den); exact Calls.quiet_of_same ((N2.out _).mono fun e w' h => ⟨h.1, h.2.symm⟩))))
        go_wp2_with fail
        refine Calls.mono (G.out _) ?_
        rintro e w1 ⟨rfl, hb1⟩
        go_wp2
        go_ret
        exact ⟨rfl, Below.step (Below.drewN ((Below.refl _ _).alloc (Nat.le_refl _) _) _) hb1⟩

theorem qValid_any (r : GRat) (w : World) (h1 : r.num.size ≤ 500000000000) (h2 : r.den.size ≤ 500000000000) :
    Calls Tryd.prog 62 #[vRat r] w fun e w' => e = .returned (.bool (gValid r)) ∧ Below w.heap.size w w' := by
  by_cases c1 : natStr (strVal r.num) = r.num
  · by_cases c2 : natStr (strVal r.den) = r.den
    · by_cases h : r.num.size = 0
      · rw [gValid_3 c1 c2 h]; exact qValid_3 r w h1 h2 c1 c2 h
      · rw [gValid_4 c1 c2 h]; exact qValid_4 r w h1 h2 c1 c2 h
    · rw [gValid_2 c2]; exact qValid_2 r w h1 h2 c1 c2
  · rw [gValid_1 c1]; exact qValid_1 r w h1 c1

theorem qclean_any (r : GRat) (w : World) (h1 : r.num.size ≤ 500000000000) (h2 : r.den.size ≤ 500000000000) :
    Calls Tryd.prog 38 #[vRat r] w fun e w' => e = .returned (vRat (enc (qOf r))) ∧ Below w.heap.size w w' := by
  have V := hid (fun w => qValid_any r w h1 h2)
  have hx0 := hid (Bx2.new w r gZ)
  clear h1 h2
  by_cases h : gValid r = true
  · rw [qOf_ok h]
    rw [h] at V
    unfold vRat
    clear h
    go_enter Tryd.func38, Tryd.ntmps38
    go_wp2_with fail
    refine Calls.mono (V.out _) ?_
    rintro e w1 ⟨rfl, hb1⟩
    have hx1 := hx0.out.next hb1
    obtain ⟨x0, x1, x2, x3, x4⟩ := hx1.1.facts
    obtain ⟨t0, t1, t2, t3, t4⟩ := hx1.2.1.facts
    go_wp2
    refine ret_blk3 (hx1.ret _).1 (fun W' c0 c1 c2 => by simp [results, Tryd.results38, go_sem, c0, c1, c2]) rfl ⟨rfl, (hx1.ret _).2⟩
  · have h' : gValid r = false := by simpa using h
    rw [qOf_bad h', ← gZ_enc]
    rw [h'] at V
    unfold vRat
    clear h h'
    go_enter Tryd.func38, Tryd.ntmps38
    go_wp2_with fail
    refine Calls.mono (V.out _) ?_
    rintro e w1 ⟨rfl, hb1⟩
    have hx1 := hx0.out.next hb1
    obtain ⟨t0, t1, t2, t3, t4⟩ := hx1.2.1.facts
    go_wp2
    refine ret_blk3 (hx1.ret gZ).1 (fun W' c0 c1 c2 => by simp [results, Tryd.results38, go_sem, c0, c1, c2]) rfl ⟨rfl, (hx1.ret gZ).2⟩

end Go.Proofs.YtgmedcncbpdimaaDoor
end
