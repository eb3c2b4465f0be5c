/- rational: reduced, Int, Sign; insolvencyref1: Int, Make, Fraction: walked. -/
import Derived.Test.YtogeijhepjcbgaaGreatDoorPlusM
import Derived.Test.YtogeijhepjcbgaaGreatDoorRef10M
import Derived.Deep.RegionHeld3
import Derived.Deep.DeepCutAuto
set_option linter.unusedVariables false
set_option linter.unusedSimpArgs false
set_option linter.defProp false
set_option linter.unnecessarySimpa false
section
/- rational: reduced, Int, Sign; insolvencyref1: Int, Make, Fraction: walked. -/
namespace Go.Proofs.YtogeijhepjcbgaaGreatDoor
open Go.RowKit
theorem ret_blk3t {P : Program} {fn : Func} {R : Ending → World → Prop} {a : Act} {W : World} {b T : Nat} {x y z : Value} {t : Bool} (h : Blk3 W b T x y z)
    (hres : ∀ W', W'.cell? ⟨b, 0, none⟩ = some x → W'.cell? ⟨b, 1, none⟩ = some y → W'.cell? ⟨b, 2, none⟩ = some z → (results fn a.tmps).run P W' = .ok (.tuple #[.agg #[x, y, z], .bool t]) W') (hd : a.defers = []) (hR : R (.returned (.tuple #[.agg #[x, y, z], .bool t])) W) : bodyPost P fn R .ret a W :=
  bodyPost_ret (hres W h.cells.1 h.cells.2.1 h.cells.2.2.1) hd hR
end Go.Proofs.YtogeijhepjcbgaaGreatDoor
end
section
/- rational: Int, Sign; insolvencyref1: Int, Make, Fraction, Sign of a Fix: walked. -/
namespace Go.Proofs.YtogeijhepjcbgaaGreatDoor
open Go.RowKit
theorem qSign_any (r : GRat) (w : World) (h1 : r.num.size ≤ 500000000000) (h2 : r.den.size ≤ 500000000000) :
    Calls Tryz.prog 75 #[vRat r] w fun e w' => e = .returned (.int .i64 (qSgn (qOf r))) ∧ Below w.heap.size w w' := by
  have C := hid (fun w => qclean_any r w h1 h2)
  have S := hid (fun w => qsignOf_any (enc (qOf r)) w)
  rw [sgnZ_enc] at S
  generalize enc (qOf r) = a at *
  generalize qSgn (qOf r) = s at *
  unfold vRat
  clear h1 h2
  go_enter Tryz.func75, Tryz.ntmps75
  go_wp2_with fail
  refine Calls.mono (C.out _) ?_
  rintro e w1 ⟨rfl, hb1⟩
  go_wp2_with fail
  refine Calls.mono (S.out _) ?_
  rintro e w2 ⟨rfl, hb2⟩
  go_wp2
  go_ret
  exact ⟨rfl, Below.step (((Below.refl _ _).alloc (Nat.le_refl _) _).step hb1) hb2⟩
theorem rInt_any (n : Int) (w : World) (h0 : -9223372036854775808 ≤ n) (h1 : n ≤ 9223372036854775807) : Calls Tryz.prog 50 #[.int .i64 n] w fun e w' => e = .returned (vRat (enc (n : Rat))) ∧ Below w.heap.size w w' := by
  have S := hid (fun w => size_any n w h0 h1)
  have F := hid (fun w => rfromUint_any n.natAbs w (by omega))
  rw [enc_int]
  have hx0 := hid (Bx1.new w)
  generalize natStr n.natAbs = s at *
  generalize ((n.natAbs : Nat) : Int) = u at *
  unfold vRat bEmpty
  simp only
  go_enter Tryz.func50, Tryz.ntmps50
  go_wp2_with fail
  refine Calls.mono (S.out _) ?_
  rintro e w1 ⟨rfl, rfl⟩
  go_wp2_with fail
  refine Calls.mono (F.out _) ?_
  rintro e w2 ⟨rfl, hb2⟩
  have hx1 := hx0.out.next hb2
  obtain ⟨x0, x1, x2, x3, x4⟩ := hx1.1.facts
  go_wp2
  have S := hx1.ret ⟨decide (n < 0), s, { data := #[] }⟩
  dsimp only at S
  refine ret_blk3 S.1 (fun W' c0 c1 c2 => by simp [results, Tryz.results50, go_sem, c0, c1, c2]) rfl ⟨rfl, S.2⟩
set_option maxRecDepth 100000 in
set_option maxHeartbeats 2000000 in
theorem rMake_ok (neg : Bool) (a b : ByteArray) (k : Nat) (w : World) (hk : k ≤ 400000000000) (ha : a.size ≤ k) (hb : b.size ≤ k) (hd : 0 < strVal b) :
    Calls Tryz.prog 107 #[.bool neg, .string a, .string b] w fun e w' => e = .returned (.tuple #[vRat (enc (mkRat (sg neg (strVal a)) (strVal b))), .bool true]) ∧ Below w.heap.size w w' := by
  have L1 := hid (fun w => cLimbs a w (by omega))
  have L2 := hid (fun w => cLimbs b w (by omega))
  have NA := hid (NB.str ha)
  have NB' := hid (NB.str hb)
  generalize strVal a = N at *
  generalize strVal b = D at *
  have R := hid (fun (w : World) (u v : Value) => rreduced_any neg u v N D k w NA.out NB'.out (by omega) hd)
  generalize enc (mkRat (sg neg N) D) = q at *
  have hx0 := hid (Bx1.new w)
  unfold vRat
  clear ha hb hk
  have HD := hid hd
  clear hd
  go_enter Tryz.func107, Tryz.ntmps107
  go_wp2_with fail
  refine Calls.mono (L2.out _) ?_
  rintro e w1 ⟨v, rfl, hv, hb1⟩
  obtain ⟨vb, voff, vm, vc, vx, rfl, hv2, hv3, hv4, hv5⟩ := hv.kind HD.out
  have hvm : 0 < vm := by omega
  clear hv2 hv3 hv5
  go_wp2_with fail
  refine Calls.mono (L1.out _) ?_
  rintro e w2 ⟨u, rfl, hu, hb2⟩
  go_wp2_with fail
  refine Calls.mono (R.out _ _ _ hu (hv.below hb2)) ?_
  rintro e w3 ⟨rfl, hb3⟩
  unfold vRat
  have hx1 := ((hx0.out.next hb1).next hb2).next hb3
  obtain ⟨x0, x1, x2, x3, x4⟩ := hx1.1.facts
  go_wp2
  refine ret_blk3t (hx1.ret q).1 (fun W' c0 c1 c2 => by simp [results, Tryz.results107, go_sem, c0, c1, c2]) rfl ⟨rfl, (hx1.ret _).2⟩
set_option maxRecDepth 100000 in
set_option maxHeartbeats 2000000 in
theorem rFraction_ok (a b : Nat) (w : World) (ha : a ≤ 9223372036854775807) (hb : b ≤ 9223372036854775807) (hd : 0 < b) :
    Calls Tryz.prog 81 #[.int .i64 a, .int .i64 b] w fun e w' => e = .returned (.tuple #[vRat (enc (mkRat (a : Int) b)), .bool true]) ∧ Below w.heap.size w w' := by
  have S1 := hid (fun w => size_any a w (by omega) (by omega))
  have S2 := hid (fun w => size_any b w (by omega) (by omega))
  have F1 := hid (fun w => rfromUint_any a w (by omega))
  have F2 := hid (fun w => rfromUint_any b w (by omega))
  have s1 : (natStr a).size ≤ 8 := by rw [natStr_size]; exact natBytes_len_le (by omega)
  have s2 : (natStr b).size ≤ 8 := by rw [natStr_size]; exact natBytes_len_le (by omega)
  have M := hid (fun w => rMake_ok false (natStr a) (natStr b) 8 w (by decide) s1 s2 (by rw [strVal_natStr]; exact hd))
  simp only [strVal_natStr] at M
  rw [show sg false a = (a : Int) from rfl] at M
  rw [Int.natAbs_natCast] at S1 S2
  generalize enc (mkRat (a : Int) b) = q at *
  have hx0 := hid (Bx1.new w)
  generalize natStr a = sa at *
  generalize natStr b = sb at *
  unfold vRat
  clear s1 s2
  go_enter Tryz.func81, Tryz.ntmps81
  go_wp2_with fail
  refine Calls.mono (S1.out _) ?_
  rintro e w1 ⟨rfl, rfl⟩
  go_wp2_with fail
  refine Calls.mono (F1.out _) ?_
  rintro e w1 ⟨rfl, hb1⟩
  go_wp2_with fail
  refine Calls.mono (S2.out _) ?_
  rintro e w2 ⟨rfl, rfl⟩
  go_wp2_with fail
  refine Calls.mono (F2.out _) ?_
  rintro e w2 ⟨rfl, hb2⟩
  go_wp2_with fail
  refine Calls.mono (M.out _) ?_
  rintro e w3 ⟨rfl, hb3⟩
  unfold vRat
  have hx1 := ((hx0.out.next hb1).next hb2).next hb3
  obtain ⟨x0, x1, x2, x3, x4⟩ := hx1.1.facts
  go_wp2
  refine ret_blk3t (hx1.ret q).1 (fun W' c0 c1 c2 => by simp [results, Tryz.results81, go_sem, c0, c1, c2]) rfl ⟨rfl, (hx1.ret _).2⟩
end Go.Proofs.YtogeijhepjcbgaaGreatDoor
end
section
/- rational: add: walked. -/
namespace Go.Proofs.YtogeijhepjcbgaaGreatDoor
open Go.RowKit
attribute [local go_sem ↓] Go.wp_at_zero Go.wp_at_succ
theorem NB.size {k n : Nat} (h : NB k n) : (natStr n).size ≤ k := by rw [natStr_size]; exact natBytes_len_le h
theorem Bx3.drewN {w w1 : World} {r1 r2 : GRat} (h : Bx3 w w1 r1 r2) (n : Nat) : Bx3 w (w1.drewN n) r1 r2 := ⟨h.1, h.2.1, h.2.2.1, h.2.2.2.drewN n⟩
end Go.Proofs.YtogeijhepjcbgaaGreatDoor
end
section
/- rational: Add, Subtract: walked. -/
namespace Go.Proofs.YtogeijhepjcbgaaGreatDoor
open Go.RowKit
attribute [local go_sem ↓] Go.wp_at_zero Go.wp_at_succ
def sB (m : Nat) (r : GRat) : Prop := r.num.size ≤ m ∧ r.den.size ≤ m
theorem sB.qB {m : Nat} {r : GRat} (h : sB m r) (hm : 0 < m) : qB m (qOf r) := qB_qOf hm h.1 h.2
theorem sB_enc {m : Nat} {q : Rat} (h : Go.Proofs.YtogeijhepjcbgaaGreatDoor.qB m q) : sB m (enc q) := enc_size h
theorem sB.mono {m n : Nat} {r : GRat} (h : sB m r) (hm : m ≤ n) : sB n r := ⟨Nat.le_trans h.1 hm, Nat.le_trans h.2 hm⟩
end Go.Proofs.YtogeijhepjcbgaaGreatDoor
end
section
/- rational: Compare: walked. -/
namespace Go.Proofs.YtogeijhepjcbgaaGreatDoor
open Go.RowKit
attribute [local go_sem ↓] Go.wp_at_zero Go.wp_at_succ
abbrev put3 (w : World) (b : Nat) (a : GRat) : World := ((w.setCell ⟨b, 0, none⟩ (.bool a.neg)).setCell ⟨b, 1, none⟩ (.string a.num)).setCell ⟨b, 2, none⟩ (.string a.den)
theorem Bx.put {w : World} {b : Nat} {r : GRat} (h : Bx w b r) (a : GRat) : Bx (put3 w b a) b a := (Blk3.stored h _ _ _).2.2.2
theorem Bx.other {w : World} {b b' : Nat} {r : GRat} (h : Bx w b r) (hne : b' ≠ b) (a : GRat) : Bx (put3 w b' a) b r := ((Blk3.other h hne _ _).other hne _ _).other hne _ _
theorem below_put {w w1 : World} {b : Nat} (h : Below w.heap.size w w1) (hb : w.heap.size ≤ b) (a : GRat) : Below w.heap.size w (put3 w1 b a) := ((h.setCell hb _).setCell hb _).setCell hb _
end Go.Proofs.YtogeijhepjcbgaaGreatDoor
end
section
/- rational: Min, Max, Multiply: walked. -/
namespace Go.Proofs.YtogeijhepjcbgaaGreatDoor
open Go.RowKit
attribute [local go_sem ↓] Go.wp_at_zero Go.wp_at_succ
end Go.Proofs.YtogeijhepjcbgaaGreatDoor
end
