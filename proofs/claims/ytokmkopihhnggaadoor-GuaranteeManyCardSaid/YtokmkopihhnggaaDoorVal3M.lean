/- insolvencyref1: Valid, Fix: walked. -/
import Derived.Test.YtokmkopihhnggaaDoorQ2M
import Derived.Test.YtokmkopihhnggaaDoorNumM
import Derived.Test.YtokmkopihhnggaaDoorNat16M
import Derived.Deep.RegionHeld3
import Derived.Deep.DeepCutAuto
set_option linter.unusedVariables false
set_option linter.unusedSimpArgs false
set_option linter.defProp false
set_option linter.unnecessarySimpa false
section
/- insolvencyref1: Valid, Fix: walked. -/
namespace Go.Proofs.YtokmkopihhnggaaDoor
open Go.RowKit
end Go.Proofs.YtokmkopihhnggaaDoor
end
section
/- rational: den, signOf, negate, magnitude: walked. -/
namespace Go.Proofs.YtokmkopihhnggaaDoor
open Go.RowKit
theorem qden_enc (q : Rat) (w : World) : Calls Tryd.prog 34 #[vRat (enc q)] w fun e w' => e = .returned (.string (natStr q.den)) ∧ Below w.heap.size w w' := by
  by_cases h : q.den = 1
  · have e1 : (enc q).den = { data := #[] } := by unfold enc; simp only [h, if_true]; rfl
    rw [h, natStr_one]
    unfold vRat
    rw [e1]
    generalize enc q = a at *
    clear h e1
    go_enter Tryd.func34, Tryd.ntmps34
    go_wp2
    go_ret
    exact ⟨rfl, (Below.refl _ _).alloc (Nat.le_refl _) _⟩
  have e1 : (enc q).den = natStr q.den := by unfold enc; simp only [h, if_false]
  have hne := num_ne (natStr_ne q.den_nz)
  unfold vRat
  rw [e1]
  generalize natStr q.den = d at *
  generalize enc q = a at *
  clear h e1
  go_enter Tryd.func34, Tryd.ntmps34
  go_wp2
  go_ret
  exact ⟨rfl, (Below.refl _ _).alloc (Nat.le_refl _) _⟩
theorem qsignOf_any (r : GRat) (w : World) : Calls Tryd.prog 27 #[vRat r] w fun e w' => e = .returned (.int .i64 (sgnZ r)) ∧ Below w.heap.size w w' := by
  unfold vRat
  by_cases h : r.num.size = 0
  · have hz : r.num = { data := #[] } := ByteArray.ext (Array.eq_empty_of_size_eq_zero h)
    have hR := hid (show sgnZ r = 0 by unfold sgnZ; rw [if_pos h])
    rw [hz]
    clear h hz
    go_enter Tryd.func27, Tryd.ntmps27
    go_wp2
    go_ret
    exact ⟨ret_int hR.out.symm, (Below.refl _ _).alloc (Nat.le_refl _) _⟩
  have hz := num_ne h
  cases hn : r.neg with
  | true =>
    have hR := hid (show sgnZ r = -1 by unfold sgnZ; rw [if_neg h, if_pos hn])
    clear h hn
    go_enter Tryd.func27, Tryd.ntmps27
    go_wp2
    go_ret
    exact ⟨ret_int hR.out.symm, (Below.refl _ _).alloc (Nat.le_refl _) _⟩
  | false =>
    have hR := hid (show sgnZ r = 1 by unfold sgnZ; rw [if_neg h, if_neg (by rw [hn]; decide)])
    clear h hn
    go_enter Tryd.func27, Tryd.ntmps27
    go_wp2
    go_ret
    exact ⟨ret_int hR.out.symm, (Below.refl _ _).alloc (Nat.le_refl _) _⟩
theorem qnegate_any (r : GRat) (w : World) (hv : r.num.size = 0 → r.neg = false) : Calls Tryd.prog 22 #[vRat r] w fun e w' => e = .returned (vRat (gOpp r)) ∧ Below w.heap.size w w' := by
  by_cases h : r.num.size = 0
  · have hz : r.num = { data := #[] } := ByteArray.ext (Array.eq_empty_of_size_eq_zero h)
    have hn := hv h
    have hR := hid (show gOpp r = r by unfold gOpp; rw [if_pos h])
    rw [hR.out]
    unfold vRat
    rw [hz, hn]
    clear h hz hn hv
    go_enter Tryd.func22, Tryd.ntmps22
    go_wp2
    go_returns
    exact ⟨rfl, ((Below.refl _ _).alloc (Nat.le_refl _) _).alloc (by simp) _⟩
  have hz := num_ne h
  have hR := hid (show gOpp r = ⟨!r.neg, r.num, r.den⟩ by unfold gOpp; rw [if_neg h])
  rw [hR.out]
  unfold vRat
  clear h hv
  cases hn : r.neg
  · clear hn
    go_enter Tryd.func22, Tryd.ntmps22
    go_wp2
    go_returns
    exact ⟨rfl, ((Below.refl _ _).alloc (Nat.le_refl _) _).alloc (by simp) _⟩
  clear hn
  go_enter Tryd.func22, Tryd.ntmps22
  go_wp2
  go_returns
  exact ⟨rfl, ((Below.refl _ _).alloc (Nat.le_refl _) _).alloc (by simp) _⟩
theorem qmagnitude_any (n : Int) (w : World) (h0 : -9223372036854775808 ≤ n) (h1 : n ≤ 9223372036854775807) : Calls Tryd.prog 14 #[.int .i64 n] w fun e w' => e = .returned (.string (natStr n.natAbs)) ∧ Below w.heap.size w w' := by
  have F := hid (fun w => fromUint_any n.natAbs w (by omega))
  by_cases h : n < 0
  · have e1 : IntKind.u64.wrap (-(IntKind.u64.wrap n)) = (n.natAbs : Int) := by rw [IntKind.wrap_u64, IntKind.wrap_u64]; omega
    go_enter Tryd.func14, Tryd.ntmps14
    go_wp2_with fail
    refine Calls.mono (F.out _) ?_
    rintro e w1 ⟨rfl, hb1⟩
    go_wp2
    go_ret
    exact ⟨rfl, hb1⟩
  have e1 : n = (n.natAbs : Int) := by omega
  have F2 := hid (fun w => F.out w)
  rw [← e1] at F2
  clear F e1
  go_enter Tryd.func14, Tryd.ntmps14
  go_wp2_with fail
  refine Calls.mono (F2.out _) ?_
  rintro e w1 ⟨rfl, hb1⟩
  go_wp2
  go_ret
  exact ⟨rfl, hb1⟩
end Go.Proofs.YtokmkopihhnggaaDoor
end
section
/- rational: reduced, Int, Sign; insolvencyref1: Int, Make, Fraction: walked. -/
namespace Go.Proofs.YtokmkopihhnggaaDoor
open Go.RowKit
theorem natStr_0 : natStr 0 = { data := #[] } := natStr_e
set_option maxRecDepth 100000 in
set_option maxHeartbeats 2000000 in
theorem qreduced_any (neg : Bool) (a b : ByteArray) (w : World) (ha : a.size ≤ 400000000000) (hb : b.size ≤ 400000000000) (hd : 0 < strVal b) :
    Calls Tryd.prog 13 #[.bool neg, .string a, .string b] w fun e w' => e = .returned (vRat (enc (mkRat (sg neg (strVal a)) (strVal b)))) ∧ Below w.heap.size w w' := by
  have N1 := hid (fun w => normalize_any a w (by unfold maxLen; omega))
  have N2 := hid (fun w => normalize_any b w (by unfold maxLen; omega))
  have sa := natStr_strVal_size a
  have sb := natStr_strVal_size b
  have hx0 := hid (Bx1.new w)
  generalize strVal a = N at *
  generalize strVal b = D at *
  by_cases hN : N = 0
  · subst hN
    rw [sg_zero, Rat.zero_mkRat, ← gZ_enc]
    rw [natStr_0] at N1
    unfold vRat
    clear ha hb sa sb hd
    generalize natStr D = d at *
    go_enter Tryd.func13, Tryd.ntmps13
    go_wp2_with fail
    refine Calls.mono (N1.out _) ?_
    rintro e w1 ⟨rfl, rfl⟩
    go_wp2_with fail
    refine Calls.mono (N2.out _) ?_
    rintro e w1 ⟨rfl, rfl⟩
    go_wp2
    go_returns
    exact ⟨rfl, (Below.refl _ _).alloc (Nat.le_refl _) _⟩
  have hE := enc_mkRat (neg := neg) (n := N) (d := D) hN (by omega)
  rw [hE]
  unfold vRat
  simp only
  have hn1 := num_ne (natStr_ne hN)
  obtain ⟨g, hg⟩ : ∃ g, g = Nat.gcd N D := ⟨_, rfl⟩
  have hg0 : 0 < g := by rw [hg]; exact Nat.gcd_pos_of_pos_right _ hd
  have G := hid (fun w => GCD_any (natStr N) (natStr D) w (by omega) (by omega))
  simp only [strVal_natStr] at G
  rw [← hg] at G ⊢
  have sg' : (natStr g).size ≤ 500000000000 := by
    have : (natStr g).size ≤ (natStr N).size := by
      rw [natStr_size, natStr_size]; exact natBytes_mono (by rw [hg]; exact Nat.gcd_le_left _ (by omega))
    omega
  have D1 := hid (fun w => Divide_ok (natStr N) (natStr g) w (by omega) sg' (by rw [strVal_natStr]; exact hg0))
  have D2 := hid (fun w => Divide_ok (natStr D) (natStr g) w (by omega) sg' (by rw [strVal_natStr]; exact hg0))
  simp only [strVal_natStr] at D1 D2
  by_cases hD : D = 1
  · subst hD
    have hg1 : g = 1 := by rw [hg]; exact Nat.gcd_one_right N
    subst hg1
    have HR := hid (show natStr (N / 1) = natStr N ∧ (if 1 / 1 = 1 then bEmpty else natStr (1 / 1)) = ({ data := #[] } : ByteArray) from ⟨by rw [Nat.div_one], rfl⟩)
    rw [HR.out.1, HR.out.2]
    rw [natStr_one] at N2
    generalize natStr N = n at *
    clear G D1 D2 hE hg hg0 hd sa sb sg' ha hb hN HR
    go_enter Tryd.func13, Tryd.ntmps13
    go_wp2_with fail
    refine Calls.mono (N1.out _) ?_
    rintro e w1 ⟨rfl, rfl⟩
    go_wp2_with fail
    refine Calls.mono (N2.out _) ?_
    rintro e w1 ⟨rfl, rfl⟩
    go_wp2
    go_returns
    exact ⟨rfl, (Below.refl _ _).alloc (Nat.le_refl _) _⟩
  have hd1 := str_ne1 (natStr_ne1 hD)
  by_cases hg1 : g = 1
  · have HR := hid (show natStr (N / g) = natStr N ∧ (if D / g = 1 then bEmpty else natStr (D / g)) = natStr D from ⟨by rw [hg1, Nat.div_one], by rw [hg1, Nat.div_one, if_neg hD]⟩)
    rw [HR.out.1, HR.out.2]
    rw [hg1, natStr_one] at G
    generalize natStr N = n at *
    generalize natStr D = d at *
    clear D1 D2 hE hg hg0 hd sa sb sg' ha hb hN HR hD hg1
    go_enter Tryd.func13, Tryd.ntmps13
    go_wp2_with fail
    refine Calls.mono (N1.out _) ?_
    rintro e w1 ⟨rfl, rfl⟩
    go_wp2_with fail
    refine Calls.mono (N2.out _) ?_
    rintro e w1 ⟨rfl, rfl⟩
    go_wp2_with fail
    refine Calls.mono (G.out _) ?_
    rintro e w1 ⟨rfl, hb1⟩
    have hx1 := hx0.out.next hb1
    obtain ⟨x0, x1, x2, x3, x4⟩ := hx1.1.facts
    go_wp2
    have S := hx1.ret ⟨neg, n, d⟩
    dsimp only at S
    refine ret_blk3 S.1 (fun W' c0 c1 c2 => by simp [results, Tryd.results13, go_sem, c0, c1, c2]) rfl ⟨rfl, S.2⟩
  have hgs := str_ne1 (natStr_ne1 hg1)
  obtain ⟨n', hn'⟩ : ∃ n', n' = natStr (N / g) := ⟨_, rfl⟩
  rw [← hn'] at D1 ⊢
  by_cases hq : D / g = 1
  · rw [hq, natStr_one] at D2
    have HR := hid (show (if D / g = 1 then bEmpty else natStr (D / g)) = ({ data := #[] } : ByteArray) by rw [if_pos hq]; rfl)
    rw [HR.out]
    generalize natStr (N % g) = n2 at *
    generalize natStr (D % g) = n3 at *
    generalize natStr N = n at *
    generalize natStr D = d at *
    generalize natStr g = gs at *
    clear hE hg hg0 hd sa sb sg' ha hb hN HR hD hg1 hq hn'
    go_enter Tryd.func13, Tryd.ntmps13
    go_wp2_with fail
    refine Calls.mono (N1.out _) ?_
    rintro e w1 ⟨rfl, rfl⟩
    go_wp2_with fail
    refine Calls.mono (N2.out _) ?_
    rintro e w1 ⟨rfl, rfl⟩
    go_wp2_with fail
    refine Calls.mono (G.out _) ?_
    rintro e w1 ⟨rfl, hb1⟩
    go_wp2_with fail
    refine Calls.mono (D1.out _) ?_
    rintro e w2 ⟨rfl, hb2⟩
    go_wp2_with fail
    refine Calls.mono (D2.out _) ?_
    rintro e w3 ⟨rfl, hb3⟩
    have hx1 := ((hx0.out.next hb1).next hb2).next hb3
    obtain ⟨x0, x1, x2, x3, x4⟩ := hx1.1.facts
    go_wp2
    have S := hx1.ret ⟨neg, n', { data := #[] }⟩
    dsimp only at S
    refine ret_blk3 S.1 (fun W' c0 c1 c2 => by simp [results, Tryd.results13, go_sem, c0, c1, c2]) rfl ⟨rfl, S.2⟩
  have hqs := str_ne1 (natStr_ne1 hq)
  have HR := hid (show (if D / g = 1 then bEmpty else natStr (D / g)) = natStr (D / g) by rw [if_neg hq])
  rw [HR.out]
  generalize natStr (N % g) = n2 at *
  generalize natStr (D % g) = n3 at *
  generalize natStr (D / g) = d' at *
  generalize natStr N = n at *
  generalize natStr D = d at *
  generalize natStr g = gs at *
  clear hE hg hg0 hd sa sb sg' ha hb hN HR hD hg1 hq hn'
  go_enter Tryd.func13, Tryd.ntmps13
  go_wp2_with fail
  refine Calls.mono (N1.out _) ?_
  rintro e w1 ⟨rfl, rfl⟩
  go_wp2_with fail
  refine Calls.mono (N2.out _) ?_
  rintro e w1 ⟨rfl, rfl⟩
  go_wp2_with fail
  refine Calls.mono (G.out _) ?_
  rintro e w1 ⟨rfl, hb1⟩
  go_wp2_with fail
  refine Calls.mono (D1.out _) ?_
  rintro e w2 ⟨rfl, hb2⟩
  go_wp2_with fail
  refine Calls.mono (D2.out _) ?_
  rintro e w3 ⟨rfl, hb3⟩
  have hx1 := ((hx0.out.next hb1).next hb2).next hb3
  obtain ⟨x0, x1, x2, x3, x4⟩ := hx1.1.facts
  go_wp2
  have S := hx1.ret ⟨neg, n', d'⟩
  dsimp only at S
  refine ret_blk3 S.1 (fun W' c0 c1 c2 => by simp [results, Tryd.results13, go_sem, c0, c1, c2]) rfl ⟨rfl, S.2⟩
end Go.Proofs.YtokmkopihhnggaaDoor
end
section
/- rational: Int, Sign; insolvencyref1: Int, Make, Fraction, Sign of a Fix: walked. -/
namespace Go.Proofs.YtokmkopihhnggaaDoor
open Go.RowKit
theorem mkRat_one (z : Int) : mkRat z 1 = (z : Rat) := Rat.mkRat_self (z : Rat)
set_option maxRecDepth 100000 in
set_option maxHeartbeats 2000000 in
theorem qInt_any (n : Int) (w : World) (h0 : -9223372036854775808 ≤ n) (h1 : n ≤ 9223372036854775807) : Calls Tryd.prog 7 #[.int .i64 n] w fun e w' => e = .returned (vRat (enc (n : Rat))) ∧ Below w.heap.size w w' := by
  have M := hid (fun w => qmagnitude_any n w h0 h1)
  have hs : (natStr n.natAbs).size ≤ 8 := by rw [natStr_size]; exact natBytes_len_le (by omega)
  have R := hid (fun w => qreduced_any (decide (n < 0)) (natStr n.natAbs) { data := #[1] } w (by omega) (by show 1 ≤ _; decide) (by decide))
  have e1 : strVal { data := #[1] } = 1 := by rw [← natStr_one, strVal_natStr]
  rw [strVal_natStr, e1, sg_of, mkRat_one] at R
  have hx0 := hid (Bx1.new w)
  generalize enc (n : Rat) = a at *
  generalize natStr n.natAbs = s at *
  unfold vRat
  clear e1 hs
  go_enter Tryd.func7, Tryd.ntmps7
  go_wp2_with fail
  refine Calls.mono (M.out _) ?_
  rintro e w1 ⟨rfl, hb1⟩
  go_wp2_with fail
  refine Calls.mono (R.out _) ?_
  rintro e w2 ⟨rfl, hb2⟩
  unfold vRat
  have hx1 := (hx0.out.next hb1).next hb2
  obtain ⟨x0, x1, x2, x3, x4⟩ := hx1.1.facts
  go_wp2
  refine ret_blk3 (hx1.ret _).1 (fun W' c0 c1 c2 => by simp [results, Tryd.results7, go_sem, c0, c1, c2]) rfl ⟨rfl, (hx1.ret _).2⟩
theorem qSign_any (r : GRat) (w : World) (h1 : r.num.size ≤ 500000000000) (h2 : r.den.size ≤ 500000000000) :
    Calls Tryd.prog 15 #[vRat r] w fun e w' => e = .returned (.int .i64 (qSgn (qOf r))) ∧ Below w.heap.size w w' := by
  have C := hid (fun w => qclean_any r w h1 h2)
  have S := hid (fun w => qsignOf_any (enc (qOf r)) w)
  rw [sgnZ_enc] at S
  generalize enc (qOf r) = a at *
  generalize qSgn (qOf r) = s at *
  unfold vRat
  clear h1 h2
  go_enter Tryd.func15, Tryd.ntmps15
  go_wp2_with fail
  refine Calls.mono (C.out _) ?_
  rintro e w1 ⟨rfl, hb1⟩
  go_wp2_with fail
  refine Calls.mono (S.out _) ?_
  rintro e w2 ⟨rfl, hb2⟩
  go_wp2
  go_ret
  exact ⟨rfl, Below.step (((Below.refl _ _).alloc (Nat.le_refl _) _).step hb1) hb2⟩
end Go.Proofs.YtokmkopihhnggaaDoor
end
section
/- rational: add: walked. -/
namespace Go.Proofs.YtokmkopihhnggaaDoor
open Go.RowKit
attribute [local go_sem ↓] Go.wp_at_zero Go.wp_at_succ
def SumOf (p q : Rat) (k X Y D : Nat) : Prop := NB k X ∧ NB k Y ∧ NB k D ∧ 0 < D ∧ (qNeg p = qNeg q → p + q = mkRat (sg (qNeg p) (X + Y)) D) ∧
  (qNeg p ≠ qNeg q → X < Y → p + q = mkRat (sg (qNeg q) (Y - X)) D) ∧ (qNeg p ≠ qNeg q → Y ≤ X → p + q = mkRat (sg (qNeg p) (X - Y)) D)
theorem sumOf_ne {p q : Rat} {m n : Nat} (hp : qB m p) (hq : qB n q) : SumOf p q (m + n) (p.num.natAbs * q.den) (q.num.natAbs * p.den) (p.den * q.den) :=
  ⟨NB.mul hp.1 hq.2, by rw [Nat.add_comm]; exact NB.mul hq.1 hp.2, NB.mul hp.2 hq.2, Nat.mul_pos p.den_pos q.den_pos, fun h => qadd_same h, fun h => qadd_lt h, fun h => qadd_ge h⟩
theorem sumOf_eq {p q : Rat} {m n : Nat} (hp : qB m p) (hq : qB n q) (h : p.den = q.den) : SumOf p q (m + n) p.num.natAbs q.num.natAbs p.den :=
  ⟨NB.mono hp.1 (by omega), NB.mono hq.1 (by omega), NB.mono hp.2 (by omega), p.den_pos, fun e => qadd_same' h e, fun e => qadd_lt' h e, fun e => qadd_ge' h e⟩
theorem NB.size {k n : Nat} (h : NB k n) : (natStr n).size ≤ k := by rw [natStr_size]; exact natBytes_len_le h
theorem Bx3.drewN {w w1 : World} {r1 r2 : GRat} (h : Bx3 w w1 r1 r2) (n : Nat) : Bx3 w (w1.drewN n) r1 r2 := ⟨h.1, h.2.1, h.2.2.1, h.2.2.2.drewN n⟩
set_option maxRecDepth 100000 in
set_option maxHeartbeats 2000000 in
theorem qadd_any (p q : Rat) (m n : Nat) (w : World) (hp : qB m p) (hq : qB n q) (hm : m ≤ 100000000000) (hn : n ≤ 100000000000) :
    Calls Tryd.prog 19 #[vRat (enc p), vRat (enc q)] w fun e w' => e = .returned (vRat (enc (p + q))) ∧ Below w.heap.size w w' := by
  have DA := hid (fun w => qden_enc p w)
  have DB := hid (fun w => qden_enc q w)
  have an : (enc p).num = natStr p.num.natAbs := rfl
  have bn : (enc q).num = natStr q.num.natAbs := rfl
  have s1 : (natStr p.num.natAbs).size ≤ m := NB.size hp.1
  have s2 : (natStr q.num.natAbs).size ≤ n := NB.size hq.1
  have s3 : (natStr p.den).size ≤ m := NB.size hp.2
  have s4 : (natStr q.den).size ≤ n := NB.size hq.2
  have M1 := hid (fun w => Multiply_any (enc p).num (natStr q.den) w (by rw [an]; omega) (by omega))
  have M2 := hid (fun w => Multiply_any (enc q).num (natStr p.den) w (by rw [bn]; omega) (by omega))
  have M3 := hid (fun w => Multiply_any (natStr p.den) (natStr q.den) w (by omega) (by omega))
  simp only [an, bn, strVal_natStr] at M1 M2 M3
  simp only [← an, ← bn] at M1 M2 M3
  have HNe := hid (sumOf_ne hp hq)
  have HEq := hid (fun h => sumOf_eq hp hq h)
  have hde : p.den = q.den → (enc p).den = (enc q).den := fun h => by unfold enc; simp only [h]
  have hdn : p.den ≠ q.den → (enc p).den ≠ (enc q).den := fun h e => h (by have a1 := enc_den p; have a2 := enc_den q; unfold gDen at a1 a2; rw [e] at a1; omega)
  have HDE := hid hde
  have HDN := hid (fun h => str_ne (hdn h))
  have AN := hid an
  have BN := hid bn
  have hx0 := hid (Bx3.new w (enc p) (enc q))
  have en1 : (enc p).neg = qNeg p := rfl
  have en2 : (enc q).neg = qNeg q := rfl
  have EN1 := hid en1
  have EN2 := hid en2
  obtain ⟨k, hk⟩ : ∃ k, k = m + n := ⟨_, rfl⟩
  have hkb : k ≤ 200000000000 := by omega
  rw [← hk] at HNe
  simp only [← hk] at HEq
  obtain ⟨c, hc⟩ : ∃ c, c = enc (p + q) := ⟨_, rfl⟩
  rw [← hc]
  have HC := hid hc
  generalize enc p = a at *
  generalize enc q = b at *
  unfold vRat at DA DB
  unfold vRat
  clear hp hq an bn s1 s2 s3 s4 hde hdn hc hk en1 en2 hm hn
  go_enter Tryd.func19, Tryd.ntmps19
  go_upto_region 1 with fail
  go_cut [5, 6, 7] (fun s5 s6 s7 wx => s5 = .string a.num ∧ s6 = .string b.num ∧ s7 = .string { data := #[1] } ∧ Bx3 w wx a b)
  case first =>
    go_quiet (fail)
    go_wp2
    go_meet
    case rel => exact ⟨rfl, rfl, rfl, Bx3.drewN hx0.out _⟩
  case rest =>
  obtain ⟨rfl, rfl, rfl, hx⟩ := hcut
  obtain ⟨z0, z1, z2, z3, z4⟩ := hx.1.facts
  obtain ⟨y0, y1, y2, y3, y4⟩ := hx.2.1.facts
  go_upto_region 2 with fail
  go_cut [20] (fun s20 wx => s20 = .bool (decide (p.den ≠ q.den)) ∧ wc = wx)
  case first =>
    by_cases hd : p.den = q.den
    · have e1 : (a.den.toList == b.den.toList) = true := by rw [HDE.out hd]; simp
      go_wp2
      go_meet
      case rel => exact ⟨congrArg Value.bool (by simp [hd, e1]), rfl⟩
    have e1 := HDN.out hd
    go_wp2
    go_meet
    case rel => exact ⟨congrArg Value.bool (by simp [hd, e1]), rfl⟩
  case rest =>
  obtain ⟨rfl, rfl⟩ := hcut
  go_upto_if 20 with fail
  go_cut [5, 6, 7] (fun s5 s6 s7 wx => ∃ X Y D, s5 = .string (natStr X) ∧ s6 = .string (natStr Y) ∧ s7 = .string (natStr D) ∧ Hid (SumOf p q k X Y D) ∧ Bx3 w wx a b)
  case first =>
    by_cases hd : p.den ≠ q.den
    rotate_left
    · have HDD := hid (Decidable.not_not.1 hd)
      go_wp2_with fail
      refine Calls.mono (DA.out _) ?_
      rintro e w1 ⟨rfl, hb1⟩
      go_wp2
      go_meet
      case rel => exact ⟨p.num.natAbs, q.num.natAbs, p.den, by rw [AN.out], by rw [BN.out], rfl, HEq.out HDD.out, hx.next hb1⟩
    go_wp2_with fail
    go_region_held3 (fun w' => w'.cell? ⟨w.heap.size, 0, none⟩ = some (.bool a.neg) ∧ w'.cell? ⟨w.heap.size, 1, none⟩ = some (.string a.num) ∧ w'.cell? ⟨w.heap.size, 2, none⟩ = some (.string a.den) ∧ w'.cell? ⟨w.heap.size + 1, 0, none⟩ = some (.bool b.neg) ∧ w'.cell? ⟨w.heap.size + 1, 1, none⟩ = some (.string b.num) ∧ w'.cell? ⟨w.heap.size + 1, 2, none⟩ = some (.string b.den)) (go_keep)
      (first
        | (go_at_call_of 34 (Value.agg #[.bool a.neg, .string a.num, .string a.den]); refine Calls.mono (DA.out _) ?_; rintro e wn ⟨rfl, hbn⟩; (first | replace hx := Bx3.next hx hbn | replace hx := Bx3.next (Bx3.drew hx) hbn); clear z0 z1 z2 z3 z4 y0 y1 y2 y3 y4; obtain ⟨z0, z1, z2, z3, z4⟩ := hx.1.facts; obtain ⟨y0, y1, y2, y3, y4⟩ := hx.2.1.facts)
        | (go_at_call_of 34 (Value.agg #[.bool b.neg, .string b.num, .string b.den]); refine Calls.mono (DB.out _) ?_; rintro e wn ⟨rfl, hbn⟩; (first | replace hx := Bx3.next hx hbn | replace hx := Bx3.next (Bx3.drew hx) hbn); clear z0 z1 z2 z3 z4 y0 y1 y2 y3 y4; obtain ⟨z0, z1, z2, z3, z4⟩ := hx.1.facts; obtain ⟨y0, y1, y2, y3, y4⟩ := hx.2.1.facts)
        | (go_at_call_of 33 (Value.string a.num); refine Calls.mono (M1.out _) ?_; rintro e wn ⟨rfl, hbn⟩; (first | replace hx := Bx3.next hx hbn | replace hx := Bx3.next (Bx3.drew hx) hbn); clear z0 z1 z2 z3 z4 y0 y1 y2 y3 y4; obtain ⟨z0, z1, z2, z3, z4⟩ := hx.1.facts; obtain ⟨y0, y1, y2, y3, y4⟩ := hx.2.1.facts)
        | (go_at_call_of 33 (Value.string b.num); refine Calls.mono (M2.out _) ?_; rintro e wn ⟨rfl, hbn⟩; (first | replace hx := Bx3.next hx hbn | replace hx := Bx3.next (Bx3.drew hx) hbn); clear z0 z1 z2 z3 z4 y0 y1 y2 y3 y4; obtain ⟨z0, z1, z2, z3, z4⟩ := hx.1.facts; obtain ⟨y0, y1, y2, y3, y4⟩ := hx.2.1.facts))
    go_wp2_with fail
    go_region_held3 (fun w' => w'.cell? ⟨w.heap.size, 0, none⟩ = some (.bool a.neg) ∧ w'.cell? ⟨w.heap.size, 1, none⟩ = some (.string a.num) ∧ w'.cell? ⟨w.heap.size, 2, none⟩ = some (.string a.den) ∧ w'.cell? ⟨w.heap.size + 1, 0, none⟩ = some (.bool b.neg) ∧ w'.cell? ⟨w.heap.size + 1, 1, none⟩ = some (.string b.num) ∧ w'.cell? ⟨w.heap.size + 1, 2, none⟩ = some (.string b.den)) (go_keep)
      (first
        | (go_at_call_of 34 (Value.agg #[.bool a.neg, .string a.num, .string a.den]); refine Calls.mono (DA.out _) ?_; rintro e wn ⟨rfl, hbn⟩; (first | replace hx := Bx3.next hx hbn | replace hx := Bx3.next (Bx3.drew hx) hbn); clear z0 z1 z2 z3 z4 y0 y1 y2 y3 y4; obtain ⟨z0, z1, z2, z3, z4⟩ := hx.1.facts; obtain ⟨y0, y1, y2, y3, y4⟩ := hx.2.1.facts)
        | (go_at_call_of 34 (Value.agg #[.bool b.neg, .string b.num, .string b.den]); refine Calls.mono (DB.out _) ?_; rintro e wn ⟨rfl, hbn⟩; (first | replace hx := Bx3.next hx hbn | replace hx := Bx3.next (Bx3.drew hx) hbn); clear z0 z1 z2 z3 z4 y0 y1 y2 y3 y4; obtain ⟨z0, z1, z2, z3, z4⟩ := hx.1.facts; obtain ⟨y0, y1, y2, y3, y4⟩ := hx.2.1.facts)
        | (go_at_call_of 33 (Value.string (natStr p.den)); refine Calls.mono (M3.out _) ?_; rintro e wn ⟨rfl, hbn⟩; (first | replace hx := Bx3.next hx hbn | replace hx := Bx3.next (Bx3.drew hx) hbn); clear z0 z1 z2 z3 z4 y0 y1 y2 y3 y4; obtain ⟨z0, z1, z2, z3, z4⟩ := hx.1.facts; obtain ⟨y0, y1, y2, y3, y4⟩ := hx.2.1.facts))
    go_wp2
    go_meet
    case rel => exact ⟨_, _, _, rfl, rfl, rfl, HNe, hx⟩
  case rest =>
    clear z0 z1 z2 z3 z4 y0 y1 y2 y3 y4 hx
    obtain ⟨X, Y, D, rfl, rfl, rfl, HS, hx⟩ := hcut
    obtain ⟨z0, z1, z2, z3, z4⟩ := hx.1.facts
    obtain ⟨y0, y1, y2, y3, y4⟩ := hx.2.1.facts
    obtain ⟨nx, ny, nd, hD0, f1, f2, f3⟩ := HS.out
    have sx := nx.size
    have sy := ny.size
    have sd := nd.size
    by_cases hs : qNeg p = qNeg q
    · have e : (a.neg == b.neg) = true := by rw [EN1.out, EN2.out, hs]; simp
      have hE := f1 hs
      have hxy : (natStr (X + Y)).size ≤ 400000000000 := Nat.le_trans (nx.add ny).size (by omega)
      have A1 := hid (fun w => add_any (natStr X) (natStr Y) w (by omega) (by omega))
      have R1 := hid (fun w => qreduced_any (qNeg p) (natStr (X + Y)) (natStr D) w hxy (by omega) (by rw [strVal_natStr]; exact hD0))
      simp only [strVal_natStr] at A1 R1
      rw [← hE, ← HC.out, ← EN1.out] at R1
      clear hs hE f1 f2 f3 nx ny nd sx sy sd hD0 hxy HS
      go_wp2_with fail
      go_region_with (first
        | (go_at_call 35; refine Calls.mono (A1.out _) ?_; rintro e wn ⟨rfl, hbn⟩; replace hx := Bx3.next (Bx3.drew hx) hbn; clear z0 z1 z2 z3 z4 y0 y1 y2 y3 y4; obtain ⟨z0, z1, z2, z3, z4⟩ := hx.1.facts)
        | (go_at_call 13; refine Calls.mono (R1.out _) ?_; rintro e wm ⟨rfl, hbm⟩; unfold vRat; replace hx := Bx3.next hx hbm; obtain ⟨t0, t1, t2, t3, t4⟩ := hx.2.2.1.facts))
      all_goals (go_wp2; refine ret_blk3 (hx.ret c).1 (fun W' c0 c1 c2 => by simp [results, Tryd.results19, go_sem, c0, c1, c2]) rfl ⟨rfl, (hx.ret c).2⟩)
    have e : (a.neg == b.neg) = false := by rw [EN1.out, EN2.out]; simp [hs]
    by_cases hl : X < Y
    · have hE := f2 hs hl
      have A1 := hid (fun w => Subtract_no (natStr X) (natStr Y) w (by omega) (by omega) (by rw [strVal_natStr, strVal_natStr]; exact hl))
      have A2 := hid (fun w => Subtract_ok (natStr Y) (natStr X) w (by omega) (by omega) (by rw [strVal_natStr, strVal_natStr]; omega))
      have hxy : (natStr (Y - X)).size ≤ 400000000000 := Nat.le_trans (ny.le (Nat.sub_le _ _)).size (by omega)
      have R1 := hid (fun w => qreduced_any (qNeg q) (natStr (Y - X)) (natStr D) w hxy (by omega) (by rw [strVal_natStr]; exact hD0))
      simp only [strVal_natStr] at A1 A2 R1
      rw [← hE, ← HC.out, ← EN2.out] at R1
      clear hs hE f1 f2 f3 nx ny nd sx sy sd hD0 hxy HS hl
      go_wp2_with fail
      refine Calls.mono (A1.out _) ?_
      rintro e8 w8 ⟨rfl, hb8⟩
      replace hx := Bx3.next hx hb8
      go_wp2_with fail
      refine Calls.mono (A2.out _) ?_
      rintro e9 w9 ⟨rfl, hb9⟩
      replace hx := Bx3.next hx hb9
      clear z0 z1 z2 z3 z4 y0 y1 y2 y3 y4
      obtain ⟨y0, y1, y2, y3, y4⟩ := hx.2.1.facts
      go_wp2_with fail
      refine Calls.mono (R1.out _) ?_
      rintro ea wa ⟨rfl, hba⟩
      unfold vRat
      replace hx := Bx3.next hx hba
      obtain ⟨t0, t1, t2, t3, t4⟩ := hx.2.2.1.facts
      go_wp2
      refine ret_blk3 (hx.ret c).1 (fun W' c0 c1 c2 => by simp [results, Tryd.results19, go_sem, c0, c1, c2]) rfl ⟨rfl, (hx.ret c).2⟩
    have hE := f3 hs (Nat.le_of_not_lt hl)
    have A1 := hid (fun w => Subtract_ok (natStr X) (natStr Y) w (by omega) (by omega) (by rw [strVal_natStr, strVal_natStr]; omega))
    have hxy : (natStr (X - Y)).size ≤ 400000000000 := Nat.le_trans (nx.le (Nat.sub_le _ _)).size (by omega)
    have R1 := hid (fun w => qreduced_any (qNeg p) (natStr (X - Y)) (natStr D) w hxy (by omega) (by rw [strVal_natStr]; exact hD0))
    simp only [strVal_natStr] at A1 R1
    rw [← hE, ← HC.out, ← EN1.out] at R1
    clear hs hE f1 f2 f3 nx ny nd sx sy sd hD0 hxy HS hl
    go_wp2_with fail
    refine Calls.mono (A1.out _) ?_
    rintro e8 w8 ⟨rfl, hb8⟩
    replace hx := Bx3.next hx hb8
    clear z0 z1 z2 z3 z4 y0 y1 y2 y3 y4
    obtain ⟨z0, z1, z2, z3, z4⟩ := hx.1.facts
    go_wp2_with fail
    refine Calls.mono (R1.out _) ?_
    rintro ea wa ⟨rfl, hba⟩
    unfold vRat
    replace hx := Bx3.next hx hba
    obtain ⟨t0, t1, t2, t3, t4⟩ := hx.2.2.1.facts
    go_wp2
    refine ret_blk3 (hx.ret c).1 (fun W' c0 c1 c2 => by simp [results, Tryd.results19, go_sem, c0, c1, c2]) rfl ⟨rfl, (hx.ret c).2⟩
end Go.Proofs.YtokmkopihhnggaaDoor
end
section
/- rational: Add, Subtract: walked. -/
namespace Go.Proofs.YtokmkopihhnggaaDoor
open Go.RowKit
attribute [local go_sem ↓] Go.wp_at_zero Go.wp_at_succ
def sB (m : Nat) (r : GRat) : Prop := r.num.size ≤ m ∧ r.den.size ≤ m
theorem sB.qB {m : Nat} {r : GRat} (h : sB m r) (hm : 0 < m) : qB m (qOf r) := qB_qOf hm h.1 h.2
theorem sB_enc {m : Nat} {q : Rat} (h : Go.Proofs.YtokmkopihhnggaaDoor.qB m q) : sB m (enc q) := enc_size h
theorem sB.mono {m n : Nat} {r : GRat} (h : sB m r) (hm : m ≤ n) : sB n r := ⟨Nat.le_trans h.1 hm, Nat.le_trans h.2 hm⟩
set_option maxRecDepth 100000 in
set_option maxHeartbeats 1000000 in
theorem qAdd_any (r1 r2 : GRat) (m n : Nat) (w : World) (h1 : sB m r1) (h2 : sB n r2) (hm : m ≤ 100000000000) (hn : n ≤ 100000000000) (hm0 : 0 < m) (hn0 : 0 < n) :
    Calls Tryd.prog 10 #[vRat r1, vRat r2] w fun e w' => e = .returned (vRat (enc (qOf r1 + qOf r2))) ∧ Below w.heap.size w w' := by
  have C1 := hid (fun w => qclean_any r1 w (by have := h1.1; omega) (by have := h1.2; omega))
  have C2 := hid (fun w => qclean_any r2 w (by have := h2.1; omega) (by have := h2.2; omega))
  have A := hid (fun w => qadd_any (qOf r1) (qOf r2) m n w (h1.qB hm0) (h2.qB hn0) hm hn)
  have hx := (Bx3.new w r1 r2).drew
  obtain ⟨z0, z1, z2, z3, z4⟩ := hx.1.facts
  clear z0 z1 z2 z3 z4
  generalize enc (qOf r1 + qOf r2) = c at *
  generalize enc (qOf r1) = a at *
  generalize enc (qOf r2) = b at *
  have HX := hid hx
  clear hx h1 h2 hm hn hm0 hn0
  unfold vRat at C1 C2 A
  unfold vRat
  go_enter Tryd.func10, Tryd.ntmps10
  go_wp2_with fail
  go_region_with (first
    | (go_at_call_of 20 (Value.agg #[.bool r1.neg, .string r1.num, .string r1.den]); refine Calls.mono (C1.out _) ?_; rintro e w1 ⟨rfl, hb1⟩; have hx1 := Bx3.next HX.out hb1; obtain ⟨y0, y1, y2, y3, y4⟩ := hx1.2.1.facts)
    | (go_at_call_of 20 (Value.agg #[.bool r2.neg, .string r2.num, .string r2.den]); refine Calls.mono (C2.out _) ?_; rintro e w2 ⟨rfl, hb2⟩; have hx2 := Bx3.next hx1 hb2)
    | (go_at_call 19; refine Calls.mono (A.out _) ?_; rintro e w3 ⟨rfl, hb3⟩; have hx3 := Bx3.next hx2 hb3; obtain ⟨t0, t1, t2, t3, t4⟩ := hx3.2.2.1.facts))
  all_goals (go_wp2; refine ret_blk3 (hx3.ret c).1 (fun W' c0 c1 c2 => by simp [results, Tryd.results10, go_sem, c0, c1, c2]) rfl ⟨rfl, (hx3.ret c).2⟩)
set_option maxRecDepth 100000 in
set_option maxHeartbeats 1000000 in
theorem qSubtract_any (r1 r2 : GRat) (m n : Nat) (w : World) (h1 : sB m r1) (h2 : sB n r2) (hm : m ≤ 100000000000) (hn : n ≤ 100000000000) (hm0 : 0 < m) (hn0 : 0 < n) :
    Calls Tryd.prog 12 #[vRat r1, vRat r2] w fun e w' => e = .returned (vRat (enc (qOf r1 - qOf r2))) ∧ Below w.heap.size w w' := by
  have C1 := hid (fun w => qclean_any r1 w (by have := h1.1; omega) (by have := h1.2; omega))
  have C2 := hid (fun w => qclean_any r2 w (by have := h2.1; omega) (by have := h2.2; omega))
  have N := hid (fun w => qnegate_any (enc (qOf r2)) w (fun h => by have e := (enc_num0 _).1 h; rw [e]; rfl))
  rw [gOpp_enc] at N
  have A := hid (fun w => qadd_any (qOf r1) (-qOf r2) m n w (h1.qB hm0) (h2.qB hn0).neg hm hn)
  rw [← Rat.sub_eq_add_neg] at A
  have HX := hid (Bx3.new w r1 r2).drew
  generalize enc (qOf r1 - qOf r2) = c at *
  generalize enc (-qOf r2) = d at *
  generalize enc (qOf r1) = a at *
  generalize enc (qOf r2) = b at *
  clear h1 h2 hm hn hm0 hn0
  unfold vRat at C1 C2 A N
  unfold vRat
  go_enter Tryd.func12, Tryd.ntmps12
  go_wp2_with fail
  go_region_with (first
    | (go_at_call_of 20 (Value.agg #[.bool r1.neg, .string r1.num, .string r1.den]); refine Calls.mono (C1.out _) ?_; rintro e w1 ⟨rfl, hb1⟩; have hx1 := Bx3.next HX.out hb1; obtain ⟨y0, y1, y2, y3, y4⟩ := hx1.2.1.facts)
    | (go_at_call_of 20 (Value.agg #[.bool r2.neg, .string r2.num, .string r2.den]); refine Calls.mono (C2.out _) ?_; rintro e w2 ⟨rfl, hb2⟩; have hx2 := Bx3.next hx1 hb2)
    | (go_at_call 22; refine Calls.mono (N.out _) ?_; rintro e w4 ⟨rfl, hb4⟩; replace hx2 := Bx3.next hx2 hb4)
    | (go_at_call 19; refine Calls.mono (A.out _) ?_; rintro e w3 ⟨rfl, hb3⟩; have hx3 := Bx3.next hx2 hb3; obtain ⟨t0, t1, t2, t3, t4⟩ := hx3.2.2.1.facts))
  all_goals (go_wp2; refine ret_blk3 (hx3.ret c).1 (fun W' c0 c1 c2 => by simp [results, Tryd.results12, go_sem, c0, c1, c2]) rfl ⟨rfl, (hx3.ret c).2⟩)
end Go.Proofs.YtokmkopihhnggaaDoor
end
section
/- rational: Compare: walked. -/
namespace Go.Proofs.YtokmkopihhnggaaDoor
open Go.RowKit
attribute [local go_sem ↓] Go.wp_at_zero Go.wp_at_succ
abbrev put3 (w : World) (b : Nat) (a : GRat) : World := ((w.setCell ⟨b, 0, none⟩ (.bool a.neg)).setCell ⟨b, 1, none⟩ (.string a.num)).setCell ⟨b, 2, none⟩ (.string a.den)
theorem Bx.put {w : World} {b : Nat} {r : GRat} (h : Bx w b r) (a : GRat) : Bx (put3 w b a) b a := (Blk3.stored h _ _ _).2.2.2
theorem Bx.other {w : World} {b b' : Nat} {r : GRat} (h : Bx w b r) (hne : b' ≠ b) (a : GRat) : Bx (put3 w b' a) b r := ((Blk3.other h hne _ _).other hne _ _).other hne _ _
theorem below_put {w w1 : World} {b : Nat} (h : Below w.heap.size w w1) (hb : w.heap.size ≤ b) (a : GRat) : Below w.heap.size w (put3 w1 b a) := ((h.setCell hb _).setCell hb _).setCell hb _
theorem Bx2.put2 {w w1 : World} {r1 r2 : GRat} (h : Bx2 w w1 r1 r2) (a b : GRat) : Bx2 w (put3 (put3 w1 w.heap.size a) (w.heap.size + 1) b) a b :=
  ⟨(h.1.put a).other (by omega) b, (h.2.1.other (by omega) a).put b, below_put (below_put h.2.2 (Nat.le_refl _) a) (by omega) b⟩
theorem Bx3.put2 {w w1 : World} {r1 r2 : GRat} (h : Bx3 w w1 r1 r2) (a b : GRat) : Bx3 w (put3 (put3 w1 w.heap.size a) (w.heap.size + 1) b) a b :=
  ⟨(h.1.put a).other (by omega) b, (h.2.1.other (by omega) a).put b, (h.2.2.1.other (by omega) a).other (by omega) b, below_put (below_put h.2.2.2 (Nat.le_refl _) a) (by omega) b⟩
theorem natCmp_bd (x y : Nat) : -1 ≤ natCmp x y ∧ natCmp x y ≤ 1 := by unfold natCmp; split <;> (try split) <;> omega
set_option maxRecDepth 100000 in
set_option maxHeartbeats 2000000 in
theorem qCompare_any (r1 r2 : GRat) (m n : Nat) (w : World) (h1 : sB m r1) (h2 : sB n r2) (hm : m ≤ 100000000000) (hn : n ≤ 100000000000) (hm0 : 0 < m) (hn0 : 0 < n) :
    Calls Tryd.prog 38 #[vRat r1, vRat r2] w fun e w' => e = .returned (.int .i64 (qCmp (qOf r1) (qOf r2))) ∧ Below w.heap.size w w' := by
  have C1 := hid (fun w => qclean_any r1 w (by have := h1.1; omega) (by have := h1.2; omega))
  have C2 := hid (fun w => qclean_any r2 w (by have := h2.1; omega) (by have := h2.2; omega))
  have S1 := hid (fun w => qsignOf_any (enc (qOf r1)) w)
  have S2 := hid (fun w => qsignOf_any (enc (qOf r2)) w)
  rw [sgnZ_enc] at S1 S2
  have DA := hid (fun w => qden_enc (qOf r1) w)
  have DB := hid (fun w => qden_enc (qOf r2) w)
  have hp := h1.qB hm0
  have hq := h2.qB hn0
  generalize qOf r1 = p at *
  generalize qOf r2 = q at *
  have an : (enc p).num = natStr p.num.natAbs := rfl
  have bn : (enc q).num = natStr q.num.natAbs := rfl
  have s1 : (natStr p.num.natAbs).size ≤ m := NB.size hp.1
  have s2 : (natStr q.num.natAbs).size ≤ n := NB.size hq.1
  have s3 : (natStr p.den).size ≤ m := NB.size hp.2
  have s4 : (natStr q.den).size ≤ n := NB.size hq.2
  have M1 := hid (fun w => Multiply_any (enc p).num (natStr q.den) w (by rw [an]; omega) (by omega))
  have M2 := hid (fun w => Multiply_any (enc q).num (natStr p.den) w (by rw [bn]; omega) (by omega))
  simp only [an, bn, strVal_natStr] at M1 M2
  simp only [← an, ← bn] at M1 M2
  obtain ⟨X, hX⟩ : ∃ X, X = p.num.natAbs * q.den := ⟨_, rfl⟩
  obtain ⟨Y, hY⟩ : ∃ X, X = q.num.natAbs * p.den := ⟨_, rfl⟩
  have nx : (natStr X).size ≤ m + n := by rw [hX]; exact NB.size (NB.mul hp.1 hq.2)
  have ny : (natStr Y).size ≤ n + m := by rw [hY]; exact NB.size (NB.mul hq.1 hp.2)
  have CO := hid (fun w => Compare_any (natStr X) (natStr Y) w (by unfold maxLen; omega) (by unfold maxLen; omega))
  rw [strVal_natStr, strVal_natStr] at CO
  have hpos : qNeg p = false → qNeg q = false → qCmp p q = natCmp X Y := fun a b => by rw [hX, hY]; exact qCmp_pos a b
  have hneg : qNeg p = true → qNeg q = true → qCmp p q = - natCmp X Y := fun a b => by rw [hX, hY]; exact qCmp_neg a b
  rw [← hX] at M1
  rw [← hY] at M2
  have hc := natCmp_bd X Y
  have HPOS := hid hpos
  have HNEG := hid hneg
  have HSG := hid (fun h => qCmp_sgn (p := p) (q := q) h)
  have HSE := hid (fun h => qSgn_eq (p := p) (q := q) h)
  have HX := hid (Bx2.new w r1 r2).drew
  have EN1 : Hid ((enc p).neg = qNeg p) := rfl
  generalize natCmp X Y = c at *
  generalize enc p = a at *
  generalize enc q = b at *
  obtain ⟨sp, hsp⟩ : ∃ s, s = qSgn p := ⟨_, rfl⟩
  obtain ⟨sq, hsq⟩ : ∃ s, s = qSgn q := ⟨_, rfl⟩
  rw [← hsp] at S1 HSG HSE
  rw [← hsq] at S2 HSG HSE
  obtain ⟨k, hk⟩ : ∃ k, k = qCmp p q := ⟨_, rfl⟩
  rw [← hk] at HSG HPOS HNEG ⊢
  clear hpos hneg hX hY an bn s1 s2 s3 s4 nx ny hp hq h1 h2 hm hn hm0 hn0 hsp hsq hk
  unfold vRat at C1 C2 S1 S2 DA DB
  unfold vRat
  go_enter Tryd.func38, Tryd.ntmps38
  go_upto_region 1 with fail
  go_cut [8, 9, 10, 11] (fun _ _ _ _ wx => Bx2 w wx a b)
  case first =>
    go_region_with (first
      | (go_at_call_of 20 (Value.agg #[.bool r1.neg, .string r1.num, .string r1.den]); refine Calls.mono (C1.out _) ?_; rintro e w1 ⟨rfl, hb1⟩; have hx1 := Bx2.next HX.out hb1; obtain ⟨y0, y1, y2, y3, y4⟩ := hx1.2.1.facts)
      | (go_at_call_of 20 (Value.agg #[.bool r2.neg, .string r2.num, .string r2.den]); refine Calls.mono (C2.out _) ?_; rintro e w2 ⟨rfl, hb2⟩; have hx2 := Bx2.next hx1 hb2; clear y0 y1 y2 y3 y4; obtain ⟨t0, t1, t2, t3, t4⟩ := hx2.1.facts; obtain ⟨y0, y1, y2, y3, y4⟩ := hx2.2.1.facts))
    all_goals (go_wp2; go_meet; exact hx2.put2 a b)
  case rest =>
    have hx := hcut
    obtain ⟨z0, z1, z2, z3, z4⟩ := hx.1.facts
    obtain ⟨y0, y1, y2, y3, y4⟩ := hx.2.1.facts
    clear hcut HX C1 C2
    go_upto_region 2 with fail
    go_cut [5, 6] (fun s5 s6 wx => s5 = .int .i64 sp ∧ s6 = .int .i64 sq ∧ Bx2 w wx a b)
    case first =>
      go_region_held3 (fun w' => w'.cell? ⟨w.heap.size, 0, none⟩ = some (.bool a.neg) ∧ w'.cell? ⟨w.heap.size, 1, none⟩ = some (.string a.num) ∧ w'.cell? ⟨w.heap.size, 2, none⟩ = some (.string a.den) ∧ w'.cell? ⟨w.heap.size + 1, 0, none⟩ = some (.bool b.neg) ∧ w'.cell? ⟨w.heap.size + 1, 1, none⟩ = some (.string b.num) ∧ w'.cell? ⟨w.heap.size + 1, 2, none⟩ = some (.string b.den)) (go_keep)
        (first
          | (go_at_call_of 27 (Value.agg #[.bool a.neg, .string a.num, .string a.den]); refine Calls.mono (S1.out _) ?_; rintro e wn ⟨rfl, hbn⟩; (first | replace hx := Bx2.next hx hbn | replace hx := Bx2.next (Bx2.drew hx) hbn); clear z0 z1 z2 z3 z4 y0 y1 y2 y3 y4; obtain ⟨z0, z1, z2, z3, z4⟩ := hx.1.facts; obtain ⟨y0, y1, y2, y3, y4⟩ := hx.2.1.facts)
          | (go_at_call_of 27 (Value.agg #[.bool b.neg, .string b.num, .string b.den]); refine Calls.mono (S2.out _) ?_; rintro e wn ⟨rfl, hbn⟩; (first | replace hx := Bx2.next hx hbn | replace hx := Bx2.next (Bx2.drew hx) hbn); clear z0 z1 z2 z3 z4 y0 y1 y2 y3 y4; obtain ⟨z0, z1, z2, z3, z4⟩ := hx.1.facts; obtain ⟨y0, y1, y2, y3, y4⟩ := hx.2.1.facts))
      go_wp2
      go_meet
      case rel => exact ⟨rfl, rfl, hx⟩
    case rest =>
    clear hx z0 z1 z2 z3 z4 y0 y1 y2 y3 y4
    obtain ⟨rfl, rfl, hx⟩ := hcut
    obtain ⟨z0, z1, z2, z3, z4⟩ := hx.1.facts
    obtain ⟨y0, y1, y2, y3, y4⟩ := hx.2.1.facts
    have hbx := hid hx.2.2
    by_cases hs : sp = sq
    · subst hs
      have hxn := hid hx
      go_upto_region 7 with fail
      go_cut [7] (fun s7 wx => s7 = .int .i64 c ∧ Bx2 w wx a b)
      case first =>
        go_region_held3 (fun w' => w'.cell? ⟨w.heap.size, 0, none⟩ = some (.bool a.neg) ∧ w'.cell? ⟨w.heap.size, 1, none⟩ = some (.string a.num) ∧ w'.cell? ⟨w.heap.size, 2, none⟩ = some (.string a.den) ∧ w'.cell? ⟨w.heap.size + 1, 0, none⟩ = some (.bool b.neg) ∧ w'.cell? ⟨w.heap.size + 1, 1, none⟩ = some (.string b.num) ∧ w'.cell? ⟨w.heap.size + 1, 2, none⟩ = some (.string b.den)) (go_keep)
          (first
            | (go_at_call_of 34 (Value.agg #[.bool a.neg, .string a.num, .string a.den]); refine Calls.mono (DA.out _) ?_; rintro e wn ⟨rfl, hbn⟩; (first | replace hx := Bx2.next hx hbn | replace hx := Bx2.next (Bx2.drew hx) hbn); clear z0 z1 z2 z3 z4 y0 y1 y2 y3 y4; obtain ⟨z0, z1, z2, z3, z4⟩ := hx.1.facts; obtain ⟨y0, y1, y2, y3, y4⟩ := hx.2.1.facts)
            | (go_at_call_of 34 (Value.agg #[.bool b.neg, .string b.num, .string b.den]); refine Calls.mono (DB.out _) ?_; rintro e wn ⟨rfl, hbn⟩; (first | replace hx := Bx2.next hx hbn | replace hx := Bx2.next (Bx2.drew hx) hbn); clear z0 z1 z2 z3 z4 y0 y1 y2 y3 y4; obtain ⟨z0, z1, z2, z3, z4⟩ := hx.1.facts; obtain ⟨y0, y1, y2, y3, y4⟩ := hx.2.1.facts)
            | (go_at_call_of 33 (Value.string a.num); refine Calls.mono (M1.out _) ?_; rintro e wn ⟨rfl, hbn⟩; (first | replace hx := Bx2.next hx hbn | replace hx := Bx2.next (Bx2.drew hx) hbn); clear z0 z1 z2 z3 z4 y0 y1 y2 y3 y4; obtain ⟨z0, z1, z2, z3, z4⟩ := hx.1.facts; obtain ⟨y0, y1, y2, y3, y4⟩ := hx.2.1.facts)
            | (go_at_call_of 33 (Value.string b.num); refine Calls.mono (M2.out _) ?_; rintro e wn ⟨rfl, hbn⟩; (first | replace hx := Bx2.next hx hbn | replace hx := Bx2.next (Bx2.drew hx) hbn); clear z0 z1 z2 z3 z4 y0 y1 y2 y3 y4; obtain ⟨z0, z1, z2, z3, z4⟩ := hx.1.facts; obtain ⟨y0, y1, y2, y3, y4⟩ := hx.2.1.facts)
            | (go_at_call 50; refine Calls.mono (CO.out _) ?_; rintro e wn ⟨rfl, rfl⟩))
        go_wp2
        go_meet
        case rel => exact ⟨rfl, hx⟩
      case rest =>
      clear hx z0 z1 z2 z3 z4 y0 y1 y2 y3 y4 hbx hxn
      obtain ⟨rfl, hx⟩ := hcut
      obtain ⟨z0, z1, z2, z3, z4⟩ := hx.1.facts
      have hbx := hid hx.2.2
      rcases HSE.out rfl with ⟨g1, g2⟩ | ⟨g1, g2⟩
      · have hk := hid (HNEG.out g1 g2)
        have ha : a.neg = true := by rw [EN1.out]; exact g1
        rw [ha] at z0
        clear ha g1 g2 hx
        go_wp2
        go_ret
        exact ⟨ret_int (by rw [hk.out]), hbx.out⟩
      have hk := hid (HPOS.out g1 g2)
      have ha : a.neg = false := by rw [EN1.out]; exact g1
      rw [ha] at z0
      clear ha g1 g2 hx
      go_wp2
      go_ret
      exact ⟨ret_int (by rw [hk.out]), hbx.out⟩
    have hk := hid (HSG.out hs)
    have e1 : (sp == sq) = false := by simpa using hs
    have e2 : (sp != sq) = true := by simp [bne, e1]
    clear hx z0 z1 z2 z3 z4 y0 y1 y2 y3 y4
    by_cases hl : sp < sq
    · have hk2 := hid (show k = -1 by rw [hk.out, if_pos hl])
      go_wp2
      go_ret
      exact ⟨ret_int (by rw [hk2.out]), hbx.out⟩
    have hk2 := hid (show k = 1 by rw [hk.out, if_neg hl])
    go_wp2
    go_ret
    exact ⟨ret_int (by rw [hk2.out]), hbx.out⟩
end Go.Proofs.YtokmkopihhnggaaDoor
end
section
/- rational: Min, Max, Multiply: walked. -/
namespace Go.Proofs.YtokmkopihhnggaaDoor
open Go.RowKit
attribute [local go_sem ↓] Go.wp_at_zero Go.wp_at_succ
set_option maxRecDepth 100000 in
set_option maxHeartbeats 1000000 in
theorem qMax_any (r1 r2 : GRat) (m n : Nat) (w : World) (h1 : sB m r1) (h2 : sB n r2) (hm : m ≤ 100000000000) (hn : n ≤ 100000000000) (hm0 : 0 < m) (hn0 : 0 < n) :
    Calls Tryd.prog 21 #[vRat r1, vRat r2] w fun e w' => e = .returned (vRat (enc (qmax (qOf r1) (qOf r2)))) ∧ Below w.heap.size w w' := by
  have C1 := hid (fun w => qclean_any r1 w (by have := h1.1; omega) (by have := h1.2; omega))
  have C2 := hid (fun w => qclean_any r2 w (by have := h2.1; omega) (by have := h2.2; omega))
  have CM := hid (fun w => qCompare_any r1 r2 m n w h1 h2 hm hn hm0 hn0)
  have HX := hid (Bx3.new w r1 r2)
  have hyes : 0 ≤ qCmp (qOf r1) (qOf r2) → qmax (qOf r1) (qOf r2) = qOf r1 := fun h => by unfold qCmp at h; unfold qmax; grind
  have hno : ¬ (0 ≤ qCmp (qOf r1) (qOf r2)) → qmax (qOf r1) (qOf r2) = qOf r2 := fun h => by unfold qCmp at h; unfold qmax; grind
  by_cases h : 0 ≤ qCmp (qOf r1) (qOf r2)
  · rw [hyes h]
    generalize qCmp (qOf r1) (qOf r2) = k at *
    generalize enc (qOf r1) = a at *
    clear h1 h2 hm hn hm0 hn0 hyes hno C2
    unfold vRat at C1 CM
    unfold vRat
    go_enter Tryd.func21, Tryd.ntmps21
    go_wp2_with fail
    refine Calls.mono (CM.out _) ?_
    rintro e w1 ⟨rfl, hb1⟩
    have hx := HX.out.next hb1
    obtain ⟨z0, z1, z2, z3, z4⟩ := hx.1.facts
    go_wp2_with fail
    refine Calls.mono (C1.out _) ?_
    rintro e w2 ⟨rfl, hb2⟩
    replace hx := hx.next hb2
    clear z0 z1 z2 z3 z4
    obtain ⟨t0, t1, t2, t3, t4⟩ := hx.2.2.1.facts
    go_wp2
    refine ret_blk3 (hx.ret a).1 (fun W' c0 c1 c2 => by simp [results, Tryd.results21, go_sem, c0, c1, c2]) rfl ⟨rfl, (hx.ret a).2⟩
  rw [hno h]
  generalize qCmp (qOf r1) (qOf r2) = k at *
  generalize enc (qOf r2) = a at *
  clear h1 h2 hm hn hm0 hn0 hyes hno C1
  unfold vRat at C2 CM
  unfold vRat
  go_enter Tryd.func21, Tryd.ntmps21
  go_wp2_with fail
  refine Calls.mono (CM.out _) ?_
  rintro e w1 ⟨rfl, hb1⟩
  have hx := HX.out.next hb1
  obtain ⟨z0, z1, z2, z3, z4⟩ := hx.2.1.facts
  go_wp2_with fail
  refine Calls.mono (C2.out _) ?_
  rintro e w2 ⟨rfl, hb2⟩
  replace hx := hx.next hb2
  clear z0 z1 z2 z3 z4
  obtain ⟨t0, t1, t2, t3, t4⟩ := hx.2.2.1.facts
  go_wp2
  refine ret_blk3 (hx.ret a).1 (fun W' c0 c1 c2 => by simp [results, Tryd.results21, go_sem, c0, c1, c2]) rfl ⟨rfl, (hx.ret a).2⟩
end Go.Proofs.YtokmkopihhnggaaDoor
end
