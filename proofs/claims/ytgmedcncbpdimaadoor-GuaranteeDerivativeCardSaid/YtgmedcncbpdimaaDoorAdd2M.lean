/- rational: Add, Subtract: walked. -/
import Derived.Test.YtgmedcncbpdimaaDoorAdd1M
set_option linter.unusedVariables false
set_option linter.unusedSimpArgs false
/- rational: Add, Subtract: walked. -/
namespace Go.Proofs.YtgmedcncbpdimaaDoor
open Go.RowKit
attribute [local go_sem ↓] Go.wp_at_zero Go.wp_at_succ

def sB (m : Nat) (r : GRat) : Prop := r.num.size ≤ m ∧ r.den.size ≤ m
theorem sB.qB {m : Nat} {r : GRat} (h : sB m r) (hm : 0 < m) : qB m (qOf r) := qB_qOf hm h.1 h.2
theorem sB_enc {m : Nat} {q : Rat} (h : Go.Proofs.YtgmedcncbpdimaaDoor.qB m q) : sB m (enc q) := enc_size h
theorem sB.mono {m n : Nat} {r : GRat} (h : sB m r) (hm : m ≤ n) : sB n r := ⟨Nat.le_trans h.1 hm, Nat.le_trans h.2 hm⟩

set_option maxRecDepth 100000 in
set_option maxHeartbeats 1000000 in
theorem qAdd_any (r1 r2 : GRat) (m n : Nat) (w : World) (h1 : sB m r1) (h2 : sB n r2) (hm : m ≤ 100000000000) (hn : n ≤ 100000000000) (hm0 : 0 < m) (hn0 : 0 < n) :
    Calls Tryd.prog 21 #[vRat r1, vRat r2] w fun e w' => e = .returned (vRat (enc (qOf r1 + qOf r2))) ∧ Below w.heap.size w w' := by
  have C1 := hid (fun w => qclean_any r1 w (by have := h1.1; omega) (by have := h1.2; omega))
  have C2 := hid (fun w => qclean_any r2 w (by have := h2.1; omega) (by have := h2.2; omega))
  have A := hid (fun w => qadd_any (qOf r1) (qOf r2) m n w (h1.qB hm0) (h2.qB hn0) hm hn)
  have hx := (Bx3.new w r1 r2).drew
  obtain ⟨z0, z1, z2, z3, z4⟩ := hx.1.facts
  clear z0 z1 z2 z3 z4
  generalize enc (qOf r1 + qOf r2) = c at *
  generalize enc (qOf r1) = a at *
  generalize enc (qOf r2) = b at *
  have HX := hid hx
  clear hx h1 h2 hm hn hm0 hn0
  unfold vRat at C1 C2 A
  unfold vRat
  go_enter Tryd.func21, Tryd.ntmps21
  go_wp2_with fail
  go_region_with (first
    | (go_at_call_of 38 (Value.agg #[.bool r1.neg, .string r1.num, .string r1.den]); refine Calls.mono (C1.out _) ?_; rintro e w1 ⟨rfl, hb1⟩; have hx1 := Bx3.next HX.out hb1; obtain ⟨y0, y1, y2, y3, y4⟩ := hx1.2.1.facts)
    | (go_at_call_of 38 (Value.agg #[.bool r2.neg, .string r2.num, .string r2.den]); refine Calls.mono (C2.out _) ?_; rintro e w2 ⟨rfl, hb2⟩; have hx2 := Bx3.next hx1 hb2)
    | (go_at_call 46; refine Calls.mono (A.out _) ?_; rintro e w3 ⟨rfl, hb3⟩; have hx3 := Bx3.next hx2 hb3; obtain ⟨t0, t1, t2, t3, t4⟩ := hx3.2.2.1.facts))
  all_goals (go_wp2; refine ret_blk3 (hx3.ret c).1 (fun W' c0 c1 c2 => by simp [results, Tryd.results21, go_sem, c0, c1, c2]) rfl ⟨rfl, (hx3.ret c).2⟩)

set_option maxRecDepth 100000 in
set_option maxHeartbeats 1000000 in
theorem qSubtract_any (r1 r2 : GRat) (m n : Nat) (w : World) (h1 : sB m r1) (h2 : sB n r2) (hm : m ≤ 100000000000) (hn : n ≤ 100000000000) (hm0 : 0 < m) (hn0 : 0 < n) :
    Calls Tryd.prog 36 #[vRat r1, vRat r2] w fun e w' => e = .returned (vRat (enc (qOf r1 - qOf r2))) ∧ Below w.heap.size w w' := by
  have C1 := hid (fun w => qclean_any r1 w (by have := h1.1; omega) (by have := h1.2; omega))
  have C2 := hid (fun w => qclean_any r2 w (by have := h2.1; omega) (by have := h2.2; omega))
  have N := hid (fun w => qnegate_any (enc (qOf r2)) w (fun h => by have e := (enc_num0 _).1 h; rw [e]; rfl))
  rw [gOpp_enc] at N
  have A := hid (fun w => qadd_any (qOf r1) (-qOf r2) m n w (h1.qB hm0) (h2.qB hn0).neg hm hn)
  rw [← Rat.sub_eq_add_neg] at A
  have HX := hid (Bx3.new w r1 r2).drew
  generalize enc (qOf r1 - qOf r2) = c at *
  generalize enc (-qOf r2) = d at *
  generalize enc (qOf r1) = a at *
  generalize enc (qOf r2) = b at *
  clear h1 h2 hm hn hm0 hn0
  unfold vRat at C1 C2 A N
  unfold vRat
  go_enter Tryd.func36, Tryd.ntmps36
  go_wp2_with fail
  go_region_with (first
    | (go_at_call_of 38 (Value.agg #[.bool r1.neg, .string r1.num, .string r1.den]); refine Calls.mono (C1.out _) ?_; rintro e w1 ⟨rfl, hb1⟩; have hx1 := Bx3.next HX.out hb1; obtain ⟨y0, y1, y2, y3, y4⟩ := hx1.2.1.facts)
    | (go_at_call_of 38 (Value.agg #[.bool r2.neg, .string r2.num, .string r2.den]); refine Calls.mono (C2.out _) ?_; rintro e w2 ⟨rfl, hb2⟩; have hx2 := Bx3.next hx1 hb2)
    | (go_at_call 61; refine Calls.mono (N.out _) ?_; rintro e w4 ⟨rfl, hb4⟩; replace hx2 := Bx3.next hx2 hb4)
    | (go_at_call 46; refine Calls.mono (A.out _) ?_; rintro e w3 ⟨rfl, hb3⟩; have hx3 := Bx3.next hx2 hb3; obtain ⟨t0, t1, t2, t3, t4⟩ := hx3.2.2.1.facts))
  all_goals (go_wp2; refine ret_blk3 (hx3.ret c).1 (fun W' c0 c1 c2 => by simp [results, Tryd.results36, go_sem, c0, c1, c2]) rfl ⟨rfl, (hx3.ret c).2⟩)

end Go.Proofs.YtgmedcncbpdimaaDoor
