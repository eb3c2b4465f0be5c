/- rational: reduced, Int, Sign; insolvencyref1: Int, Make, Fraction: walked. -/
import Derived.Test.YtgmedcncbpdimaaDoorSm1M
import Derived.Test.YtgmedcncbpdimaaDoorRefUM
set_option linter.unusedVariables false
set_option linter.unusedSimpArgs false
/- rational: reduced, Int, Sign; insolvencyref1: Int, Make, Fraction: walked. -/
namespace Go.Proofs.YtgmedcncbpdimaaDoor
open Go.RowKit

theorem natStr_0 : natStr 0 = { data := #[] } := natStr_e

/-- At a return of a struct of three cells that lies in memory, and a bool. -/
theorem ret_blk3t {P : Program} {fn : Func} {R : Ending → World → Prop} {a : Act} {W : World} {b T : Nat} {x y z : Value} {t : Bool} (h : Blk3 W b T x y z)
    (hres : ∀ W', W'.cell? ⟨b, 0, none⟩ = some x → W'.cell? ⟨b, 1, none⟩ = some y → W'.cell? ⟨b, 2, none⟩ = some z → (results fn a.tmps).run P W' = .ok (.tuple #[.agg #[x, y, z], .bool t]) W') (hd : a.defers = []) (hR : R (.returned (.tuple #[.agg #[x, y, z], .bool t])) W) : bodyPost P fn R .ret a W :=
  bodyPost_ret (hres W h.cells.1 h.cells.2.1 h.cells.2.2.1) hd hR

set_option maxRecDepth 100000 in
set_option maxHeartbeats 2000000 in
theorem qreduced_any (neg : Bool) (a b : ByteArray) (w : World) (ha : a.size ≤ 400000000000) (hb : b.size ≤ 400000000000) (hd : 0 < strVal b) :
    Calls Tryd.prog 52 #[.bool neg, .string a, .string b] w fun e w' => e = .returned (vRat (enc (mkRat (sg neg (strVal a)) (strVal b)))) ∧ Below w.heap.size w w' := by
  have N1 := hid (fun w => normalize_any a w (by unfold maxLen; omega))
  have N2 := hid (fun w => normalize_any b w (by unfold maxLen; omega))
  have sa := natStr_strVal_size a
  have sb := natStr_strVal_size b
  have hx0 := hid (Bx1.new w)
  generalize strVal a = N at *
  generalize strVal b = D at *
  by_cases hN : N = 0
  · subst hN
    rw [sg_zero, Rat.zero_mkRat, ← gZ_enc]
    rw [natStr_0] at N1
    unfold vRat
    clear ha hb sa sb hd
    generalize natStr D = d at *
    go_enter Tryd.func52, Tryd.ntmps52
    go_wp2_with fail
    refine Calls.mono (N1.out _) ?_
    rintro e w1 ⟨rfl, rfl⟩
    go_wp2_with fail
    refine Calls.mono (N2.out _) ?_
    rintro e w1 ⟨rfl, rfl⟩
    go_wp2
    go_returns
    exact ⟨rfl, (Below.refl _ _).alloc (Nat.le_refl _) _⟩
  · have hE := enc_mkRat (neg := neg) (n := N) (d := D) hN (by omega)
    rw [hE]
    unfold vRat
    simp only
    have hn1 := num_ne (natStr_ne hN)
    obtain ⟨g, hg⟩ : ∃ g, g = Nat.gcd N D := ⟨_, rfl⟩
    have hg0 : 0 < g := by rw [hg]; exact Nat.gcd_pos_of_pos_right _ hd
    have G := hid (fun w => GCD_any (natStr N) (natStr D) w (by omega) (by omega))
    simp only [strVal_natStr] at G
    rw [← hg] at G ⊢
    have sg' : (natStr g).size ≤ 500000000000 := by
      have : (natStr g).size ≤ (natStr N).size := by
        rw [natStr_size, natStr_size]; exact natBytes_mono (by rw [hg]; exact Nat.gcd_le_left _ (by omega))
      omega
    have D1 := hid (fun w => Divide_ok (natStr N) (natStr g) w (by omega) sg' (by rw [strVal_natStr]; exact hg0))
    have D2 := hid (fun w => Divide_ok (natStr D) (natStr g) w (by omega) sg' (by rw [strVal_natStr]; exact hg0))
    simp only [strVal_natStr] at D1 D2
    by_cases hD : D = 1
    · subst hD
      have hg1 : g = 1 := by rw [hg]; exact Nat.gcd_one_right N
      subst hg1
      have HR := hid (show natStr (N / 1) = natStr N ∧ (if 1 / 1 = 1 then bEmpty else natStr (1 / 1)) = ({ data := #[] } : ByteArray) from ⟨by rw [Nat.div_one], rfl⟩)
      rw [HR.out.1, HR.out.2]
      rw [natStr_one] at N2
      generalize natStr N = n at *
      clear G D1 D2 hE hg hg0 hd sa sb sg' ha hb hN HR
      go_enter Tryd.func52, Tryd.ntmps52
      go_wp2_with fail
      refine Calls.mono (N1.out _) ?_
      rintro e w1 ⟨rfl, rfl⟩
      go_wp2_with fail
      refine Calls.mono (N2.out _) ?_
      rintro e w1 ⟨rfl, rfl⟩
      go_wp2
      go_returns
      exact ⟨rfl, (Below.refl _ _).alloc (Nat.le_refl _) _⟩
    · have hd1 := str_ne1 (natStr_ne1 hD)
      by_cases hg1 : g = 1
      · have HR := hid (show natStr (N / g) = natStr N ∧ (if D / g = 1 then bEmpty else natStr (D / g)) = natStr D from ⟨by rw [hg1, Nat.div_one], by rw [hg1, Nat.div_one, if_neg hD]⟩)
        rw [HR.out.1, HR.out.2]
        rw [hg1, natStr_one] at G
        generalize natStr N = n at *
        generalize natStr D = d at *
        clear D1 D2 hE hg hg0 hd sa sb sg' ha hb hN HR hD hg1
        go_enter Tryd.func52, Tryd.ntmps52
        go_wp2_with fail
        refine Calls.mono (N1.out _) ?_
        rintro e w1 ⟨rfl, rfl⟩
        go_wp2_with fail
        refine Calls.mono (N2.out _) ?_
        rintro e w1 ⟨rfl, rfl⟩
        go_wp2_with fail
        refine Calls.mono (G.out _) ?_
        rintro e w1 ⟨rfl, hb1⟩
        have hx1 := hx0.out.next hb1
        obtain ⟨x0, x1, x2, x3, x4⟩ := hx1.1.facts
        go_wp2
        have S := hx1.ret ⟨neg, n, d⟩
        dsimp only at S
        refine ret_blk3 S.1 (fun W' c0 c1 c2 => by simp [results, Tryd.results52, go_sem, c0, c1, c2]) rfl ⟨rfl, S.2⟩
      · have hgs := str_ne1 (natStr_ne1 hg1)
        obtain ⟨n', hn'⟩ : ∃ n', n' = natStr (N / g) := ⟨_, rfl⟩
        rw [← hn'] at D1 ⊢
        by_cases hq : D / g = 1
        · rw [hq, natStr_one] at D2
          have HR := hid (show (if D / g = 1 then bEmpty else natStr (D / g)) = ({ data := #[] } : ByteArray) by rw [if_pos hq]; rfl)
          rw [HR.out]
          generalize natStr (N % g) = n2 at *
          generalize natStr (D % g) = n3 at *
          generalize natStr N = n at *
          generalize natStr D = d at *
          generalize natStr g = gs at *
          clear hE hg hg0 hd sa sb sg' ha hb hN HR hD hg1 hq hn'
          go_enter Tryd.func52, Tryd.ntmps52
          go_wp2_with fail
          refine Calls.mono (N1.out _) ?_
          rintro e w1 ⟨rfl, rfl⟩
          go_wp2_with fail
          refine Calls.mono (N2.out _) ?_
          rintro e w1 ⟨rfl, rfl⟩
          go_wp2_with fail
          refine Calls.mono (G.out _) ?_
          rintro e w1 ⟨rfl, hb1⟩
          go_wp2_with fail
          refine Calls.mono (D1.out _) ?_
          rintro e w2 ⟨rfl, hb2⟩
          go_wp2_with fail
          refine Calls.mono (D2.out _) ?_
          rintro e w3 ⟨rfl, hb3⟩
          have hx1 := ((hx0.out.next hb1).next hb2).next hb3
          obtain ⟨x0, x1, x2, x3, x4⟩ := hx1.1.facts
          go_wp2
          have S := hx1.ret ⟨neg, n', { data := #[] }⟩
          dsimp only at S
          refine ret_blk3 S.1 (fun W' c0 c1 c2 => by simp [results, Tryd.results52, go_sem, c0, c1, c2]) rfl ⟨rfl, S.2⟩
        · have hqs := str_ne1 (natStr_ne1 hq)
          have HR := hid (show (if D / g = 1 then bEmpty else natStr (D / g)) = natStr (D / g) by rw [if_neg hq])
          rw [HR.out]
          generalize natStr (N % g) = n2 at *
          generalize natStr (D % g) = n3 at *
          generalize natStr (D / g) = d' at *
          generalize natStr N = n at *
          generalize natStr D = d at *
          generalize natStr g = gs at *
          clear hE hg hg0 hd sa sb sg' ha hb hN HR hD hg1 hq hn'
          go_enter Tryd.func52, Tryd.ntmps52
          go_wp2_with fail
          refine Calls.mono (N1.out _) ?_
          rintro e w1 ⟨rfl, rfl⟩
          go_wp2_with fail
          refine Calls.mono (N2.out _) ?_
          rintro e w1 ⟨rfl, rfl⟩
          go_wp2_with fail
          refine Calls.mono (G.out _) ?_
          rintro e w1 ⟨rfl, hb1⟩
          go_wp2_with fail
          refine Calls.mono (D1.out _) ?_
          rintro e w2 ⟨rfl, hb2⟩
          go_wp2_with fail
          refine Calls.mono (D2.out _) ?_
          rintro e w3 ⟨rfl, hb3⟩
          have hx1 := ((hx0.out.next hb1).next hb2).next hb3
          obtain ⟨x0, x1, x2, x3, x4⟩ := hx1.1.facts
          go_wp2
          have S := hx1.ret ⟨neg, n', d'⟩
          dsimp only at S
          refine ret_blk3 S.1 (fun W' c0 c1 c2 => by simp [results, Tryd.results52, go_sem, c0, c1, c2]) rfl ⟨rfl, S.2⟩

end Go.Proofs.YtgmedcncbpdimaaDoor
