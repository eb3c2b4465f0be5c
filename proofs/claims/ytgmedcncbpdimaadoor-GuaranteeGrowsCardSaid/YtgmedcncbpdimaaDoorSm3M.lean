/- rational: Int, Sign; insolvencyref1: Int, Make, Fraction, Sign of a Fix: walked. -/
import Derived.Test.YtgmedcncbpdimaaDoorSm2M
set_option linter.unusedVariables false
set_option linter.unusedSimpArgs false
/- rational: Int, Sign; insolvencyref1: Int, Make, Fraction, Sign of a Fix: walked. -/
namespace Go.Proofs.YtgmedcncbpdimaaDoor
open Go.RowKit

theorem mkRat_one (z : Int) : mkRat z 1 = (z : Rat) := Rat.mkRat_self (z : Rat)

set_option maxRecDepth 100000 in
set_option maxHeartbeats 2000000 in
theorem qInt_any (n : Int) (w : World) (h0 : -9223372036854775808 ≤ n) (h1 : n ≤ 9223372036854775807) : Calls Tryd.prog 39 #[.int .i64 n] w fun e w' => e = .returned (vRat (enc (n : Rat))) ∧ Below w.heap.size w w' := by
  have M := hid (fun w => qmagnitude_any n w h0 h1)
  have hs : (natStr n.natAbs).size ≤ 8 := by rw [natStr_size]; exact natBytes_len_le (by omega)
  have R := hid (fun w => qreduced_any (decide (n < 0)) (natStr n.natAbs) { data := #[1] } w (by omega) (by show 1 ≤ _; decide) (by decide))
  have e1 : strVal { data := #[1] } = 1 := by rw [← natStr_one, strVal_natStr]
  rw [strVal_natStr, e1, sg_of, mkRat_one] at R
  have hx0 := hid (Bx1.new w)
  generalize enc (n : Rat) = a at *
  generalize natStr n.natAbs = s at *
  unfold vRat
  clear e1 hs
  go_enter Tryd.func39, Tryd.ntmps39
  go_wp2_with fail
  refine Calls.mono (M.out _) ?_
  rintro e w1 ⟨rfl, hb1⟩
  go_wp2_with fail
  refine Calls.mono (R.out _) ?_
  rintro e w2 ⟨rfl, hb2⟩
  unfold vRat
  have hx1 := (hx0.out.next hb1).next hb2
  obtain ⟨x0, x1, x2, x3, x4⟩ := hx1.1.facts
  go_wp2
  refine ret_blk3 (hx1.ret _).1 (fun W' c0 c1 c2 => by simp [results, Tryd.results39, go_sem, c0, c1, c2]) rfl ⟨rfl, (hx1.ret _).2⟩

theorem qSign_any (r : GRat) (w : World) (h1 : r.num.size ≤ 500000000000) (h2 : r.den.size ≤ 500000000000) :
    Calls Tryd.prog 13 #[vRat r] w fun e w' => e = .returned (.int .i64 (qSgn (qOf r))) ∧ Below w.heap.size w w' := by
  have C := hid (fun w => qclean_any r w h1 h2)
  have S := hid (fun w => qsignOf_any (enc (qOf r)) w)
  rw [sgnZ_enc] at S
  generalize enc (qOf r) = a at *
  generalize qSgn (qOf r) = s at *
  unfold vRat
  clear h1 h2
  go_enter Tryd.func13, Tryd.ntmps13
  go_wp2_with fail
  refine Calls.mono (C.out _) ?_
  rintro e w1 ⟨rfl, hb1⟩
  go_wp2_with fail
  refine Calls.mono (S.out _) ?_
  rintro e w2 ⟨rfl, hb2⟩
  go_wp2
  go_ret
  exact ⟨rfl, Below.step (((Below.refl _ _).alloc (Nat.le_refl _) _).step hb1) hb2⟩

theorem rInt_any (n : Int) (w : World) (h0 : -9223372036854775808 ≤ n) (h1 : n ≤ 9223372036854775807) : Calls Tryd.prog 60 #[.int .i64 n] w fun e w' => e = .returned (vRat (enc (n : Rat))) ∧ Below w.heap.size w w' := by
  have S := hid (fun w => size_any n w h0 h1)
  have F := hid (fun w => rfromUint_any n.natAbs w (by omega))
  rw [enc_int]
  have hx0 := hid (Bx1.new w)
  generalize natStr n.natAbs = s at *
  generalize ((n.natAbs : Nat) : Int) = u at *
  unfold vRat bEmpty
  simp only
  go_enter Tryd.func60, Tryd.ntmps60
  go_wp2_with fail
  refine Calls.mono (S.out _) ?_
  rintro e w1 ⟨rfl, rfl⟩
  go_wp2_with fail
  refine Calls.mono (F.out _) ?_
  rintro e w2 ⟨rfl, hb2⟩
  have hx1 := hx0.out.next hb2
  obtain ⟨x0, x1, x2, x3, x4⟩ := hx1.1.facts
  go_wp2
  have S := hx1.ret ⟨decide (n < 0), s, { data := #[] }⟩
  dsimp only at S
  refine ret_blk3 S.1 (fun W' c0 c1 c2 => by simp [results, Tryd.results60, go_sem, c0, c1, c2]) rfl ⟨rfl, S.2⟩

set_option maxRecDepth 100000 in
set_option maxHeartbeats 2000000 in
theorem rMake_ok (neg : Bool) (a b : ByteArray) (k : Nat) (w : World) (hk : k ≤ 400000000000) (ha : a.size ≤ k) (hb : b.size ≤ k) (hd : 0 < strVal b) :
    Calls Tryd.prog 80 #[.bool neg, .string a, .string b] w fun e w' => e = .returned (.tuple #[vRat (enc (mkRat (sg neg (strVal a)) (strVal b))), .bool true]) ∧ Below w.heap.size w w' := by
  have L1 := hid (fun w => cLimbs a w (by omega))
  have L2 := hid (fun w => cLimbs b w (by omega))
  have NA := hid (NB.str ha)
  have NB' := hid (NB.str hb)
  generalize strVal a = N at *
  generalize strVal b = D at *
  have R := hid (fun (w : World) (u v : Value) => rreduced_any neg u v N D k w NA.out NB'.out (by omega) hd)
  generalize enc (mkRat (sg neg N) D) = q at *
  have hx0 := hid (Bx1.new w)
  unfold vRat
  clear ha hb hk
  have HD := hid hd
  clear hd
  go_enter Tryd.func80, Tryd.ntmps80
  go_wp2_with fail
  refine Calls.mono (L2.out _) ?_
  rintro e w1 ⟨v, rfl, hv, hb1⟩
  obtain ⟨vb, voff, vm, vc, vx, rfl, hv2, hv3, hv4, hv5⟩ := hv.kind HD.out
  have hvm : 0 < vm := by omega
  clear hv2 hv3 hv5
  go_wp2_with fail
  refine Calls.mono (L1.out _) ?_
  rintro e w2 ⟨u, rfl, hu, hb2⟩
  go_wp2_with fail
  refine Calls.mono (R.out _ _ _ hu (hv.below hb2)) ?_
  rintro e w3 ⟨rfl, hb3⟩
  unfold vRat
  have hx1 := ((hx0.out.next hb1).next hb2).next hb3
  obtain ⟨x0, x1, x2, x3, x4⟩ := hx1.1.facts
  go_wp2
  refine ret_blk3t (hx1.ret q).1 (fun W' c0 c1 c2 => by simp [results, Tryd.results80, go_sem, c0, c1, c2]) rfl ⟨rfl, (hx1.ret _).2⟩

set_option maxRecDepth 100000 in
set_option maxHeartbeats 2000000 in
theorem rFraction_ok (a b : Nat) (w : World) (ha : a ≤ 9223372036854775807) (hb : b ≤ 9223372036854775807) (hd : 0 < b) :
    Calls Tryd.prog 51 #[.int .i64 a, .int .i64 b] w fun e w' => e = .returned (.tuple #[vRat (enc (mkRat (a : Int) b)), .bool true]) ∧ Below w.heap.size w w' := by
  have S1 := hid (fun w => size_any a w (by omega) (by omega))
  have S2 := hid (fun w => size_any b w (by omega) (by omega))
  have F1 := hid (fun w => rfromUint_any a w (by omega))
  have F2 := hid (fun w => rfromUint_any b w (by omega))
  have s1 : (natStr a).size ≤ 8 := by rw [natStr_size]; exact natBytes_len_le (by omega)
  have s2 : (natStr b).size ≤ 8 := by rw [natStr_size]; exact natBytes_len_le (by omega)
  have M := hid (fun w => rMake_ok false (natStr a) (natStr b) 8 w (by decide) s1 s2 (by rw [strVal_natStr]; exact hd))
  simp only [strVal_natStr] at M
  rw [show sg false a = (a : Int) from rfl] at M
  rw [Int.natAbs_natCast] at S1 S2
  generalize enc (mkRat (a : Int) b) = q at *
  have hx0 := hid (Bx1.new w)
  generalize natStr a = sa at *
  generalize natStr b = sb at *
  unfold vRat
  clear s1 s2
  go_enter Tryd.func51, Tryd.ntmps51
  go_wp2_with fail
  refine Calls.mono (S1.out _) ?_
  rintro e w1 ⟨rfl, rfl⟩
  go_wp2_with fail
  refine Calls.mono (F1.out _) ?_
  rintro e w1 ⟨rfl, hb1⟩
  go_wp2_with fail
  refine Calls.mono (S2.out _) ?_
  rintro e w2 ⟨rfl, rfl⟩
  go_wp2_with fail
  refine Calls.mono (F2.out _) ?_
  rintro e w2 ⟨rfl, hb2⟩
  go_wp2_with fail
  refine Calls.mono (M.out _) ?_
  rintro e w3 ⟨rfl, hb3⟩
  unfold vRat
  have hx1 := ((hx0.out.next hb1).next hb2).next hb3
  obtain ⟨x0, x1, x2, x3, x4⟩ := hx1.1.facts
  go_wp2
  refine ret_blk3t (hx1.ret q).1 (fun W' c0 c1 c2 => by simp [results, Tryd.results51, go_sem, c0, c1, c2]) rfl ⟨rfl, (hx1.ret _).2⟩

end Go.Proofs.YtgmedcncbpdimaaDoor
