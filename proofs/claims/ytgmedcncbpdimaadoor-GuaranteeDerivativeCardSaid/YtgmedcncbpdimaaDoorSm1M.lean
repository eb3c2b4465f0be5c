/- rational: den, signOf, negate, magnitude: walked. -/
import Derived.Test.YtgmedcncbpdimaaDoorVal3M
import Derived.Test.YtgmedcncbpdimaaDoorRefUM
set_option linter.unusedVariables false
set_option linter.unusedSimpArgs false
section
/- rational: den, signOf, negate, magnitude: walked. -/
namespace Go.Proofs.YtgmedcncbpdimaaDoor
open Go.RowKit

theorem qden_enc (q : Rat) (w : World) : Calls Tryd.prog 49 #[vRat (enc q)] w fun e w' => e = .returned (.string (natStr q.den)) ∧ Below w.heap.size w w' := by
  by_cases h : q.den = 1
  · have e1 : (enc q).den = { data := #[] } := by unfold enc; simp only [h, if_true]; rfl
    rw [h, natStr_one]
    unfold vRat
    rw [e1]
    generalize enc q = a at *
    clear h e1
    go_enter Tryd.func49, Tryd.ntmps49
    go_wp2
    go_ret
    exact ⟨rfl, (Below.refl _ _).alloc (Nat.le_refl _) _⟩
  · have e1 : (enc q).den = natStr q.den := by unfold enc; simp only [h, if_false]
    have hne := num_ne (natStr_ne q.den_nz)
    unfold vRat
    rw [e1]
    generalize natStr q.den = d at *
    generalize enc q = a at *
    clear h e1
    go_enter Tryd.func49, Tryd.ntmps49
    go_wp2
    go_ret
    exact ⟨rfl, (Below.refl _ _).alloc (Nat.le_refl _) _⟩

theorem qsignOf_any (r : GRat) (w : World) : Calls Tryd.prog 37 #[vRat r] w fun e w' => e = .returned (.int .i64 (sgnZ r)) ∧ Below w.heap.size w w' := by
  unfold vRat
  by_cases h : r.num.size = 0
  · have hz : r.num = { data := #[] } := ByteArray.ext (Array.eq_empty_of_size_eq_zero h)
    have hR := hid (show sgnZ r = 0 by unfold sgnZ; rw [if_pos h])
    rw [hz]
    clear h hz
    go_enter Tryd.func37, Tryd.ntmps37
    go_wp2
    go_ret
    exact ⟨ret_int hR.out.symm, (Below.refl _ _).alloc (Nat.le_refl _) _⟩
  · have hz := num_ne h
    cases hn : r.neg with
    | true =>
      have hR := hid (show sgnZ r = -1 by unfold sgnZ; rw [if_neg h, if_pos hn])
      clear h hn
      go_enter Tryd.func37, Tryd.ntmps37
      go_wp2
      go_ret
      exact ⟨ret_int hR.out.symm, (Below.refl _ _).alloc (Nat.le_refl _) _⟩
    | false =>
      have hR := hid (show sgnZ r = 1 by unfold sgnZ; rw [if_neg h, if_neg (by rw [hn]; decide)])
      clear h hn
      go_enter Tryd.func37, Tryd.ntmps37
      go_wp2
      go_ret
      exact ⟨ret_int hR.out.symm, (Below.refl _ _).alloc (Nat.le_refl _) _⟩

theorem qnegate_any (r : GRat) (w : World) (hv : r.num.size = 0 → r.neg = false) : Calls Tryd.prog 61 #[vRat r] w fun e w' => e = .returned (vRat (gOpp r)) ∧ Below w.heap.size w w' := by
  by_cases h : r.num.size = 0
  · have hz : r.num = { data := #[] } := ByteArray.ext (Array.eq_empty_of_size_eq_zero h)
    have hn := hv h
    have hR := hid (show gOpp r = r by unfold gOpp; rw [if_pos h])
    rw [hR.out]
    unfold vRat
    rw [hz, hn]
    clear h hz hn hv
    go_enter Tryd.func61, Tryd.ntmps61
    go_wp2
    go_returns
    exact ⟨rfl, ((Below.refl _ _).alloc (Nat.le_refl _) _).alloc (by simp) _⟩
  · have hz := num_ne h
    have hR := hid (show gOpp r = ⟨!r.neg, r.num, r.den⟩ by unfold gOpp; rw [if_neg h])
    rw [hR.out]
    unfold vRat
    clear h hv
    cases hn : r.neg
    · clear hn
      go_enter Tryd.func61, Tryd.ntmps61
      go_wp2
      go_returns
      exact ⟨rfl, ((Below.refl _ _).alloc (Nat.le_refl _) _).alloc (by simp) _⟩
    · clear hn
      go_enter Tryd.func61, Tryd.ntmps61
      go_wp2
      go_returns
      exact ⟨rfl, ((Below.refl _ _).alloc (Nat.le_refl _) _).alloc (by simp) _⟩

theorem qmagnitude_any (n : Int) (w : World) (h0 : -9223372036854775808 ≤ n) (h1 : n ≤ 9223372036854775807) : Calls Tryd.prog 63 #[.int .i64 n] w fun e w' => e = .returned (.string (natStr n.natAbs)) ∧ Below w.heap.size w w' := by
  have F := hid (fun w => fromUint_any n.natAbs w (by omega))
  by_cases h : n < 0
  · have e1 : IntKind.u64.wrap (-(IntKind.u64.wrap n)) = (n.natAbs : Int) := by rw [IntKind.wrap_u64, IntKind.wrap_u64]; omega
    go_enter Tryd.func63, Tryd.ntmps63
    go_wp2_with fail
    refine Calls.mono (F.out _) ?_
    rintro e w1 ⟨rfl, hb1⟩
    go_wp2
    go_ret
    exact ⟨rfl, hb1⟩
  · have e1 : n = (n.natAbs : Int) := by omega
    have F2 := hid (fun w => F.out w)
    rw [← e1] at F2
    clear F e1
    go_enter Tryd.func63, Tryd.ntmps63
    go_wp2_with fail
    refine Calls.mono (F2.out _) ?_
    rintro e w1 ⟨rfl, hb1⟩
    go_wp2
    go_ret
    exact ⟨rfl, hb1⟩

end Go.Proofs.YtgmedcncbpdimaaDoor
end
section
/- rational: reduced, Int, Sign; insolvencyref1: Int, Make, Fraction: walked. -/
namespace Go.Proofs.YtgmedcncbpdimaaDoor
open Go.RowKit

theorem natStr_0 : natStr 0 = { data := #[] } := natStr_e

/-- At a return of a struct of three cells that lies in memory, and a bool. -/
theorem ret_blk3t {P : Program} {fn : Func} {R : Ending → World → Prop} {a : Act} {W : World} {b T : Nat} {x y z : Value} {t : Bool} (h : Blk3 W b T x y z)
    (hres : ∀ W', W'.cell? ⟨b, 0, none⟩ = some x → W'.cell? ⟨b, 1, none⟩ = some y → W'.cell? ⟨b, 2, none⟩ = some z → (results fn a.tmps).run P W' = .ok (.tuple #[.agg #[x, y, z], .bool t]) W') (hd : a.defers = []) (hR : R (.returned (.tuple #[.agg #[x, y, z], .bool t])) W) : bodyPost P fn R .ret a W :=
  bodyPost_ret (hres W h.cells.1 h.cells.2.1 h.cells.2.2.1) hd hR

set_option maxRecDepth 100000 in
set_option maxHeartbeats 2000000 in
theorem qreduced_any (neg : Bool) (a b : ByteArray) (w : World) (ha : a.size ≤ 400000000000) (hb : b.size ≤ 400000000000) (hd : 0 < strVal b) :
    Calls Tryd.prog 52 #[.bool neg, .string a, .string b] w fun e w' => e = .returned (vRat (enc (mkRat (sg neg (strVal a)) (strVal b)))) ∧ Below w.heap.size w w' := by
  have N1 := hid (fun w => normalize_any a w (by unfold maxLen; omega))
  have N2 := hid (fun w => normalize_any b w (by unfold maxLen; omega))
  have sa := natStr_strVal_size a
  have sb := natStr_strVal_size b
  have hx0 := hid (Bx1.new w)
  generalize strVal a = N at *
  generalize strVal b = D at *
  by_cases hN : N = 0
  · subst hN
    rw [sg_zero, Rat.zero_mkRat, ← gZ_enc]
    rw [natStr_0] at N1
    unfold vRat
    clear ha hb sa sb hd
    generalize natStr D = d at *
    go_enter Tryd.func52, Tryd.ntmps52
    go_wp2_with fail
    refine Calls.mono (N1.out _) ?_
    rintro e w1 ⟨rfl, rfl⟩
    go_wp2_with fail
    refine Calls.mono (N2.out _) ?_
    rintro e w1 ⟨rfl, rfl⟩
    go_wp2
    go_returns
    exact ⟨rfl, (Below.refl _ _).alloc (Nat.le_refl _) _⟩
  · have hE := enc_mkRat (neg := neg) (n := N) (d := D) hN (by omega)
    rw [hE]
    unfold vRat
    simp only
    have hn1 := num_ne (natStr_ne hN)
    obtain ⟨g, hg⟩ : ∃ g, g = Nat.gcd N D := ⟨_, rfl⟩
    have hg0 : 0 < g := by rw [hg]; exact Nat.gcd_pos_of_pos_right _ hd
    have G := hid (fun w => GCD_any (natStr N) (natStr D) w (by omega) (by omega))
    simp only [strVal_natStr] at G
    rw [← hg] at G ⊢
    have sg' : (natStr g).size ≤ 500000000000 := by
      have : (natStr g).size ≤ (natStr N).size := by
        rw [natStr_size, natStr_size]; exact natBytes_mono (by rw [hg]; exact Nat.gcd_le_left _ (by omega))
      omega
    have D1 := hid (fun w => Divide_ok (natStr N) (natStr g) w (by omega) sg' (by rw [strVal_natStr]; exact hg0))
    have D2 := hid (fun w => Divide_ok (natStr D) (natStr g) w (by omega) sg' (by rw [strVal_natStr]; exact hg0))
    simp only [strVal_natStr] at D1 D2
    by_cases hD : D = 1
    · subst hD
      have hg1 : g = 1 := by rw [hg]; exact Nat.gcd_one_right N
      subst hg1
      have HR := hid (show natStr (N / 1) = natStr N ∧ (if 1 / 1 = 1 then bEmpty else natStr (1 / 1)) = ({ data := #[] } : ByteArray) from ⟨by rw [Nat.div_one], rfl⟩)
      rw [HR.out.1, HR.out.2]
      rw [natStr_one] at N2
      generalize natStr N = n at *
      clear G D1 D2 hE hg hg0 hd sa sb sg' ha hb hN HR
      go_enter Tryd.func52, Tryd.ntmps52
      go_wp2_with fail
      refine Calls.mono (N1.out _) ?_
      rintro e w1 ⟨rfl, rfl⟩
      go_wp2_with fail
      refine Calls.mono (N2.out _) ?_
      rintro e w1 ⟨rfl, rfl⟩
      go_wp2
      go_returns
      exact ⟨rfl, (Below.refl _ _).alloc (Nat.le_refl _) _⟩
    · have hd1 := str_ne1 (natStr_ne1 hD)
      by_cases hg1 : g = 1
      · have HR := hid (show natStr (N / g) = natStr N ∧ (if D / g = 1 then bEmpty else natStr (D / g)) = natStr D from ⟨by rw [hg1, Nat.div_one], by rw [hg1, Nat.div_one, if_neg hD]⟩)
        rw [HR.out.1, HR.out.2]
        rw [hg1, natStr_one] at G
        generalize natStr N = n at *
        generalize natStr D = d at *
        clear D1 D2 hE hg hg0 hd sa sb sg' ha hb hN HR hD hg1
        go_enter Tryd.func52, Tryd.ntmps52
        go_wp2_with fail
        refine Calls.mono (N1.out _) ?_
        rintro e w1 ⟨rfl, rfl⟩
        go_wp2_with fail
        refine Calls.mono (N2.out _) ?_
        rintro e w1 ⟨rfl, rfl⟩
        go_wp2_with fail
        refine Calls.mono (G.out _) ?_
        rintro e w1 ⟨rfl, hb1⟩
        have hx1 := hx0.out.next hb1
        obtain ⟨x0, x1, x2, x3, x4⟩ := hx1.1.facts
        go_wp2
        have S := hx1.ret ⟨neg, n, d⟩
        dsimp only at S
        refine ret_blk3 S.1 (fun W' c0 c1 c2 => by simp [results, Tryd.results52, go_sem, c0, c1, c2]) rfl ⟨rfl, S.2⟩
      · have hgs := str_ne1 (natStr_ne1 hg1)
        obtain ⟨n', hn'⟩ : ∃ n', n' = natStr (N / g) := ⟨_, rfl⟩
        rw [← hn'] at D1 ⊢
        by_cases hq : D / g = 1
        · rw [hq, natStr_one] at D2
          have HR := hid (show (if D / g = 1 then bEmpty else natStr (D / g)) = ({ data := #[] } : ByteArray) by rw [if_pos hq]; rfl)
          rw [HR.out]
          generalize natStr (N % g) = n2 at *
          generalize natStr (D % g) = n3 at *
          generalize natStr N = n at *
          generalize natStr D = d at *
          generalize natStr g = gs at *
          clear hE hg hg0 hd sa sb sg' ha hb hN HR hD hg1 hq hn'
          go_enter Tryd.func52, Tryd.ntmps52
          go_wp2_with fail
          refine Calls.mono (N1.out _) ?_
          rintro e w1 ⟨rfl, rfl⟩
          go_wp2_with fail
          refine Calls.mono (N2.out _) ?_
          rintro e w1 ⟨rfl, rfl⟩
          go_wp2_with fail
          refine Calls.mono (G.out _) ?_
          rintro e w1 ⟨rfl, hb1⟩
          go_wp2_with fail
          refine Calls.mono (D1.out _) ?_
          rintro e w2 ⟨rfl, hb2⟩
          go_wp2_with fail
          refine Calls.mono (D2.out _) ?_
          rintro e w3 ⟨rfl, hb3⟩
          have hx1 := ((hx0.out.next hb1).next hb2).next hb3
          obtain ⟨x0, x1, x2, x3, x4⟩ := hx1.1.facts
          go_wp2
          have S := hx1.ret ⟨neg, n', { data := #[] }⟩
          dsimp only at S
          refine ret_blk3 S.1 (fun W' c0 c1 c2 => by simp [results, Tryd.results52, go_sem, c0, c1, c2]) rfl ⟨rfl, S.2⟩
        · have hqs := str_ne1 (natStr_ne1 hq)
          have HR := hid (show (if D / g = 1 then bEmpty else natStr (D / g)) = natStr (D / g) by rw [if_neg hq])
          rw [HR.out]
          generalize natStr (N % g) = n2 at *
          generalize natStr (D % g) = n3 at *
          generalize natStr (D / g) = d' at *
          generalize natStr N = n at *
          generalize natStr D = d at *
          generalize natStr g = gs at *
          clear hE hg hg0 hd sa sb sg' ha hb hN HR hD hg1 hq hn'
          go_enter Tryd.func52, Tryd.ntmps52
          go_wp2_with fail
          refine Calls.mono (N1.out _) ?_
          rintro e w1 ⟨rfl, rfl⟩
          go_wp2_with fail
          refine Calls.mono (N2.out _) ?_
          rintro e w1 ⟨rfl, rfl⟩
          go_wp2_with fail
          refine Calls.mono (G.out _) ?_
          rintro e w1 ⟨rfl, hb1⟩
          go_wp2_with fail
          refine Calls.mono (D1.out _) ?_
          rintro e w2 ⟨rfl, hb2⟩
          go_wp2_with fail
          refine Calls.mono (D2.out _) ?_
          rintro e w3 ⟨rfl, hb3⟩
          have hx1 := ((hx0.out.next hb1).next hb2).next hb3
          obtain ⟨x0, x1, x2, x3, x4⟩ := hx1.1.facts
          go_wp2
          have S := hx1.ret ⟨neg, n', d'⟩
          dsimp only at S
          refine ret_blk3 S.1 (fun W' c0 c1 c2 => by simp [results, Tryd.results52, go_sem, c0, c1, c2]) rfl ⟨rfl, S.2⟩

end Go.Proofs.YtgmedcncbpdimaaDoor
end
section
/- rational: Int, Sign; insolvencyref1: Int, Make, Fraction, Sign of a Fix: walked. -/
namespace Go.Proofs.YtgmedcncbpdimaaDoor
open Go.RowKit

theorem mkRat_one (z : Int) : mkRat z 1 = (z : Rat) := Rat.mkRat_self (z : Rat)

set_option maxRecDepth 100000 in
set_option maxHeartbeats 2000000 in
theorem qInt_any (n : Int) (w : World) (h0 : -9223372036854775808 ≤ n) (h1 : n ≤ 9223372036854775807) : Calls Tryd.prog 39 #[.int .i64 n] w fun e w' => e = .returned (vRat (enc (n : Rat))) ∧ Below w.heap.size w w' := by
  have M := hid (fun w => qmagnitude_any n w h0 h1)
  have hs : (natStr n.natAbs).size ≤ 8 := by rw [natStr_size]; exact natBytes_len_le (by omega)
  have R := hid (fun w => qreduced_any (decide (n < 0)) (natStr n.natAbs) { data := #[1] } w (by omega) (by show 1 ≤ _; decide) (by decide))
  have e1 : strVal { data := #[1] } = 1 := by rw [← natStr_one, strVal_natStr]
  rw [strVal_natStr, e1, sg_of, mkRat_one] at R
  have hx0 := hid (Bx1.new w)
  generalize enc (n : Rat) = a at *
  generalize natStr n.natAbs = s at *
  unfold vRat
  clear e1 hs
  go_enter Tryd.func39, Tryd.ntmps39
  go_wp2_with fail
  refine Calls.mono (M.out _) ?_
  rintro e w1 ⟨rfl, hb1⟩
  go_wp2_with fail
  refine Calls.mono (R.out _) ?_
  rintro e w2 ⟨rfl, hb2⟩
  unfold vRat
  have hx1 := (hx0.out.next hb1).next hb2
  obtain ⟨x0, x1, x2, x3, x4⟩ := hx1.1.facts
  go_wp2
  refine ret_blk3 (hx1.ret _).1 (fun W' c0 c1 c2 => by simp [results, Tryd.results39, go_sem, c0, c1, c2]) rfl ⟨rfl, (hx1.ret _).2⟩

theorem qSign_any (r : GRat) (w : World) (h1 : r.num.size ≤ 500000000000) (h2 : r.den.size ≤ 500000000000) :
    Calls Tryd.prog 13 #[vRat r] w fun e w' => e = .returned (.int .i64 (qSgn (qOf r))) ∧ Below w.heap.size w w' := by
  have C := hid (fun w => qclean_any r w h1 h2)
  have S := hid (fun w => qsignOf_any (enc (qOf r)) w)
  rw [sgnZ_enc] at S
  generalize enc (qOf r) = a at *
  generalize qSgn (qOf r) = s at *
  unfold vRat
  clear h1 h2
  go_enter Tryd.func13, Tryd.ntmps13
  go_wp2_with fail
  refine Calls.mono (C.out _) ?_
  rintro e w1 ⟨rfl, hb1⟩
  go_wp2_with fail
  refine Calls.mono (S.out _) ?_
  rintro e w2 ⟨rfl, hb2⟩
  go_wp2
  go_ret
  exact ⟨rfl, Below.step (((Below.refl _ _).alloc (Nat.le_refl _) _).step hb1) hb2⟩

theorem rInt_any (n : Int) (w : World) (h0 : -9223372036854775808 ≤ n) (h1 : n ≤ 9223372036854775807) : Calls Tryd.prog 60 #[.int .i64 n] w fun e w' => e = .returned (vRat (enc (n : Rat))) ∧ Below w.heap.size w w' := by
  have S := hid (fun w => size_any n w h0 h1)
  have F := hid (fun w => rfromUint_any n.natAbs w (by omega))
  rw [enc_int]
  have hx0 := hid (Bx1.new w)
  generalize natStr n.natAbs = s at *
  generalize ((n.natAbs : Nat) : Int) = u at *
  unfold vRat bEmpty
  simp only
  go_enter Tryd.func60, Tryd.ntmps60
  go_wp2_with fail
  refine Calls.mono (S.out _) ?_
  rintro e w1 ⟨rfl, rfl⟩
  go_wp2_with fail
  refine Calls.mono (F.out _) ?_
  rintro e w2 ⟨rfl, hb2⟩
  have hx1 := hx0.out.next hb2
  obtain ⟨x0, x1, x2, x3, x4⟩ := hx1.1.facts
  go_wp2
  have S := hx1.ret ⟨decide (n < 0), s, { data := #[] }⟩
  dsimp only at S
  refine ret_blk3 S.1 (fun W' c0 c1 c2 => by simp [results, Tryd.results60, go_sem, c0, c1, c2]) rfl ⟨rfl, S.2⟩

set_option maxRecDepth 100000 in
set_option maxHeartbeats 2000000 in
theorem rMake_ok (neg : Bool) (a b : ByteArray) (k : Nat) (w : World) (hk : k ≤ 400000000000) (ha : a.size ≤ k) (hb : b.size ≤ k) (hd : 0 < strVal b) :
    Calls Tryd.prog 80 #[.bool neg, .string a, .string b] w fun e w' => e = .returned (.tuple #[vRat (enc (mkRat (sg neg (strVal a)) (strVal b))), .bool true]) ∧ Below w.heap.size w w' := by
  have L1 := hid (fun w => cLimbs a w (by omega))
  have L2 := hid (fun w => cLimbs b w (by omega))
  have NA := hid (NB.str ha)
  have NB' := hid (NB.str hb)
  generalize strVal a = N at *
  generalize strVal b = D at *
  have R := hid (fun (w : World) (u v : Value) => rreduced_any neg u v N D k w NA.out NB'.out (by omega) hd)
  generalize enc (mkRat (sg neg N) D) = q at *
  have hx0 := hid (Bx1.new w)
  unfold vRat
  clear ha hb hk
  have HD := hid hd
  clear hd
  go_enter Tryd.func80, Tryd.ntmps80
  go_wp2_with fail
  refine Calls.mono (L2.out _) ?_
  rintro e w1 ⟨v, rfl, hv, hb1⟩
  obtain ⟨vb, voff, vm, vc, vx, rfl, hv2, hv3, hv4, hv5⟩ := hv.kind HD.out
  have hvm : 0 < vm := by omega
  clear hv2 hv3 hv5
  go_wp2_with fail
  refine Calls.mono (L1.out _) ?_
  rintro e w2 ⟨u, rfl, hu, hb2⟩
  go_wp2_with fail
  refine Calls.mono (R.out _ _ _ hu (hv.below hb2)) ?_
  rintro e w3 ⟨rfl, hb3⟩
  unfold vRat
  have hx1 := ((hx0.out.next hb1).next hb2).next hb3
  obtain ⟨x0, x1, x2, x3, x4⟩ := hx1.1.facts
  go_wp2
  refine ret_blk3t (hx1.ret q).1 (fun W' c0 c1 c2 => by simp [results, Tryd.results80, go_sem, c0, c1, c2]) rfl ⟨rfl, (hx1.ret _).2⟩

set_option maxRecDepth 100000 in
set_option maxHeartbeats 2000000 in
theorem rFraction_ok (a b : Nat) (w : World) (ha : a ≤ 9223372036854775807) (hb : b ≤ 9223372036854775807) (hd : 0 < b) :
    Calls Tryd.prog 51 #[.int .i64 a, .int .i64 b] w fun e w' => e = .returned (.tuple #[vRat (enc (mkRat (a : Int) b)), .bool true]) ∧ Below w.heap.size w w' := by
  have S1 := hid (fun w => size_any a w (by omega) (by omega))
  have S2 := hid (fun w => size_any b w (by omega) (by omega))
  have F1 := hid (fun w => rfromUint_any a w (by omega))
  have F2 := hid (fun w => rfromUint_any b w (by omega))
  have s1 : (natStr a).size ≤ 8 := by rw [natStr_size]; exact natBytes_len_le (by omega)
  have s2 : (natStr b).size ≤ 8 := by rw [natStr_size]; exact natBytes_len_le (by omega)
  have M := hid (fun w => rMake_ok false (natStr a) (natStr b) 8 w (by decide) s1 s2 (by rw [strVal_natStr]; exact hd))
  simp only [strVal_natStr] at M
  rw [show sg false a = (a : Int) from rfl] at M
  rw [Int.natAbs_natCast] at S1 S2
  generalize enc (mkRat (a : Int) b) = q at *
  have hx0 := hid (Bx1.new w)
  generalize natStr a = sa at *
  generalize natStr b = sb at *
  unfold vRat
  clear s1 s2
  go_enter Tryd.func51, Tryd.ntmps51
  go_wp2_with fail
  refine Calls.mono (S1.out _) ?_
  rintro e w1 ⟨rfl, rfl⟩
  go_wp2_with fail
  refine Calls.mono (F1.out _) ?_
  rintro e w1 ⟨rfl, hb1⟩
  go_wp2_with fail
  refine Calls.mono (S2.out _) ?_
  rintro e w2 ⟨rfl, rfl⟩
  go_wp2_with fail
  refine Calls.mono (F2.out _) ?_
  rintro e w2 ⟨rfl, hb2⟩
  go_wp2_with fail
  refine Calls.mono (M.out _) ?_
  rintro e w3 ⟨rfl, hb3⟩
  unfold vRat
  have hx1 := ((hx0.out.next hb1).next hb2).next hb3
  obtain ⟨x0, x1, x2, x3, x4⟩ := hx1.1.facts
  go_wp2
  refine ret_blk3t (hx1.ret q).1 (fun W' c0 c1 c2 => by simp [results, Tryd.results51, go_sem, c0, c1, c2]) rfl ⟨rfl, (hx1.ret _).2⟩

end Go.Proofs.YtgmedcncbpdimaaDoor
end
