/- guarantee.positive, insolvencyref17.amount, insolvencylaw0: Whole, Ratio, Amount, Few, FewRats: walked. -/
import Derived.Test.YtogeijhepjcbgaaGreatDoorSm2M
set_option linter.unusedVariables false
set_option linter.unusedSimpArgs false
set_option linter.defProp false
set_option linter.unnecessarySimpa false
/- guarantee.positive, insolvencyref17.amount, insolvencylaw0: Whole, Ratio, Amount, Few, FewRats: walked. -/
namespace Go.Proofs.YtogeijhepjcbgaaGreatDoor
open Go.RowKit
theorem qOf_gZ : qOf gZ = 0 := by rw [gZ_enc, qOf_enc]
theorem Whole_any (n : Int) (w : World) (h0 : -9223372036854775808 ≤ n) (h1 : n ≤ 9223372036854775807) : Calls Tryz.prog 19 #[.int .i64 n] w fun e w' => e = .returned (vRat (enc (n : Rat))) ∧ Below w.heap.size w w' := by
  have I := hid (fun w => rInt_any n w h0 h1)
  have HX := hid (Bx1.new w)
  generalize enc (n : Rat) = a at *
  unfold vRat at I
  unfold vRat
  go_enter Tryz.func19, Tryz.ntmps19
  go_wp2_with fail
  refine Calls.mono (I.out _) ?_
  rintro e w1 ⟨rfl, hb1⟩
  have hx := HX.out.next hb1
  obtain ⟨t0, t1, t2, t3, t4⟩ := hx.1.facts
  go_wp2
  refine ret_blk3 (hx.ret a).1 (fun W' c0 c1 c2 => by simp [results, Tryz.results19, go_sem, c0, c1, c2]) rfl ⟨rfl, (hx.ret a).2⟩
theorem Ratio_ok (a b : Nat) (w : World) (ha : a ≤ 9223372036854775807) (hb : b ≤ 9223372036854775807) (hd : 0 < b) :
    Calls Tryz.prog 52 #[.int .i64 a, .int .i64 b] w fun e w' => e = .returned (vRat (enc (mkRat (a : Int) b))) ∧ Below w.heap.size w w' := by
  have F := hid (fun w => rFraction_ok a b w ha hb hd)
  have HX := hid (Bx1.new w)
  generalize enc (mkRat (a : Int) b) = q at *
  unfold vRat at F
  unfold vRat
  go_enter Tryz.func52, Tryz.ntmps52
  go_wp2_with fail
  refine Calls.mono (F.out _) ?_
  rintro e w1 ⟨rfl, hb1⟩
  have hx := HX.out.next hb1
  obtain ⟨t0, t1, t2, t3, t4⟩ := hx.1.facts
  have S := hid (hx.1.put q)
  have hbx := hid (below_put hx.2 (Nat.le_refl _) q)
  go_wp2
  refine ret_blk3 (Blk3.alloc S.out _) (fun W' c0 c1 c2 => by simp [results, Tryz.results52, go_sem, c0, c1, c2]) rfl ⟨rfl, hbx.out.alloc (Below.size hbx.out) _⟩
set_option maxRecDepth 100000 in
theorem Amount_any (x : Nat) (w : World) (hx : x < 65536) : Calls Tryz.prog 24 #[.int .u16 x] w fun e w' => e = .returned (vRat (enc (qAmt x))) ∧ Below w.heap.size w w' := by
  have HX := hid (Bx1.new w)
  by_cases h0 : x % 5 = 0
  · have e0 : ((x : Int) % 5 == 0) = true := by simp; omega
    have R := Ratio_ok (x / 5 % 23) (1 + x / 115 % 6)
    have hq : qAmt x = mkRat ((x / 5 % 23 : Nat) : Int) (1 + x / 115 % 6) := by unfold qAmt; rw [if_pos h0]
    rw [← hq] at R
    rw [show (((x / 5 % 23 : Nat)) : Int) = (x : Int) / 5 % 23 by omega, show (((1 + x / 115 % 6 : Nat)) : Int) = 1 + (x : Int) / 115 % 6 by omega] at R
    have RR := hid (fun w => R w (by omega) (by omega) (by omega))
    generalize enc (qAmt x) = q at *
    clear R hq
    unfold vRat at RR
    unfold vRat
    go_enter Tryz.func24, Tryz.ntmps24
    go_wp2_with fail
    refine Calls.mono (RR.out _) ?_
    rintro e w1 ⟨rfl, hb1⟩
    have hx := HX.out.next hb1
    obtain ⟨t0, t1, t2, t3, t4⟩ := hx.1.facts
    go_wp2
    refine ret_blk3 (hx.ret q).1 (fun W' c0 c1 c2 => by simp [results, Tryz.results24, go_sem, c0, c1, c2]) rfl ⟨rfl, (hx.ret q).2⟩
  have e0 : ((x : Int) % 5 == 0) = false := by simp; omega
  by_cases h1 : x % 5 = 1
  · have e1 : ((x : Int) % 5 == 1) = true := by simp; omega
    have R := Whole_any (10 * ((x : Int) / 5 % 4))
    have hq : qAmt x = (((10 * ((x : Int) / 5 % 4)) : Int) : Rat) := by unfold qAmt; rw [if_neg h0, if_pos h1]; congr 1
    rw [← hq] at R
    have RR := hid (fun w => R w (by omega) (by omega))
    generalize enc (qAmt x) = q at *
    clear R hq
    unfold vRat at RR
    unfold vRat
    go_enter Tryz.func24, Tryz.ntmps24
    go_wp2_with fail
    refine Calls.mono (RR.out _) ?_
    rintro e w1 ⟨rfl, hb1⟩
    have hx := HX.out.next hb1
    obtain ⟨t0, t1, t2, t3, t4⟩ := hx.1.facts
    go_wp2
    refine ret_blk3 (hx.ret q).1 (fun W' c0 c1 c2 => by simp [results, Tryz.results24, go_sem, c0, c1, c2]) rfl ⟨rfl, (hx.ret q).2⟩
  have e1 : ((x : Int) % 5 == 1) = false := by simp; omega
  have R := Whole_any ((x : Int) / 5 % 13)
  have hq : qAmt x = ((((x : Int) / 5 % 13) : Int) : Rat) := by unfold qAmt; rw [if_neg h0, if_neg h1]; congr 1
  rw [← hq] at R
  have RR := hid (fun w => R w (by omega) (by omega))
  generalize enc (qAmt x) = q at *
  clear R hq
  unfold vRat at RR
  unfold vRat
  go_enter Tryz.func24, Tryz.ntmps24
  go_wp2_with fail
  refine Calls.mono (RR.out _) ?_
  rintro e w1 ⟨rfl, hb1⟩
  have hx := HX.out.next hb1
  obtain ⟨t0, t1, t2, t3, t4⟩ := hx.1.facts
  go_wp2
  refine ret_blk3 (hx.ret q).1 (fun W' c0 c1 c2 => by simp [results, Tryz.results24, go_sem, c0, c1, c2]) rfl ⟨rfl, (hx.ret q).2⟩
end Go.Proofs.YtogeijhepjcbgaaGreatDoor
