/- insolvencyref1: Plus: walked. -/
import Derived.Test.YtogeijhepjcbgaaGreatDoorQ1M
import Derived.Deep.QuietTactic
import Derived.BigQuiet
import Derived.Test.YtogeijhepjcbgaaGreatDoorShelfM
import Derived.Test.YtogeijhepjcbgaaGreatDoorNat5M
set_option linter.unusedVariables false
set_option linter.unusedSimpArgs false
set_option linter.defProp false
set_option linter.unnecessarySimpa false
section
/- insolvencyref1: Plus: walked. -/
namespace Go.Proofs.YtogeijhepjcbgaaGreatDoor
open Go.RowKit
theorem rPlus_zl (a b : GRat) (h : a.num.size = 0) (w : World) : Calls Tryz.prog 69 #[vRat a, vRat b] w fun e w' => e = .returned (vRat b) ∧ Below w.heap.size w w' := by
  have hz : a.num = { data := #[] } := ByteArray.ext (Array.eq_empty_of_size_eq_zero h)
  unfold vRat
  rw [hz]
  clear h hz
  go_enter Tryz.func69, Tryz.ntmps69
  go_wp2
  go_returns
  exact ⟨rfl, (((Below.refl _ _).alloc (Nat.le_refl _) _).alloc (by simp) _).alloc (by simp; omega) _⟩
theorem rPlus_zr (a b : GRat) (ha : ¬ a.num.size = 0) (h : b.num.size = 0) (w : World) : Calls Tryz.prog 69 #[vRat a, vRat b] w fun e w' => e = .returned (vRat a) ∧ Below w.heap.size w w' := by
  have hz : b.num = { data := #[] } := ByteArray.ext (Array.eq_empty_of_size_eq_zero h)
  have hne := num_ne ha
  unfold vRat
  rw [hz]
  clear h hz ha
  go_enter Tryz.func69, Tryz.ntmps69
  go_wp2
  go_returns
  exact ⟨rfl, (((Below.refl _ _).alloc (Nat.le_refl _) _).alloc (by simp) _).alloc (by simp; omega) _⟩
attribute [local go_sem ↓] Go.wp_at_zero Go.wp_at_succ
set_option maxRecDepth 100000 in
set_option maxHeartbeats 1000000 in
theorem rPlus_nz (p q : Rat) (m n : Nat) (w : World) (hp : qB m p) (hq : qB n q) (hm : m ≤ 100000000000) (hn : n ≤ 100000000000) (hp0 : p ≠ 0) (hq0 : q ≠ 0) :
    Calls Tryz.prog 69 #[vRat (enc p), vRat (enc q)] w fun e w' => e = .returned (vRat (enc (p + q))) ∧ Below w.heap.size w w' := by
  have hne1 := num_ne (fun h => hp0 ((enc_num0 p).1 h))
  have hne2 := num_ne (fun h => hq0 ((enc_num0 q).1 h))
  have es1 := enc_size hp
  have es2 := enc_size hq
  have H1 := hid (fun w => cDen (enc p) w (by omega))
  have H2 := hid (fun w => cDen (enc q) w (by omega))
  have H3 := hid (fun w => cLimbs (enc p).num w (by omega))
  have H4 := hid (fun w => cLimbs (enc q).num w (by omega))
  simp only [enc_den, enc_num] at H1 H2 H3 H4
  have N1 : NB m p.num.natAbs := hp.1
  have N2 : NB m p.den := hp.2
  have N3 : NB n q.num.natAbs := hq.1
  have N4 : NB n q.den := hq.2
  have hd1 := p.den_pos
  have hd2 := q.den_pos
  have hs1 : qNeg p = qNeg q → p + q = _ := fun h => qadd_same h
  have hs2 : qNeg p ≠ qNeg q → _ → p + q = _ := fun h => qadd_lt h
  have hs3 : qNeg p ≠ qNeg q → _ → p + q = _ := fun h => qadd_ge h
  obtain ⟨X, hX⟩ : ∃ X, X = p.num.natAbs * q.den := ⟨_, rfl⟩
  obtain ⟨Y, hY⟩ : ∃ X, X = q.num.natAbs * p.den := ⟨_, rfl⟩
  obtain ⟨D, hD⟩ : ∃ X, X = p.den * q.den := ⟨_, rfl⟩
  have NX : NB (m + n) X := by rw [hX]; exact N1.mul N4
  have NY : NB (m + n) Y := by rw [hY, Nat.add_comm]; exact N3.mul N2
  have ND : NB (m + n) D := by rw [hD]; exact N2.mul N4
  have hD0 : 0 < D := by rw [hD]; exact Nat.mul_pos hd1 hd2
  have T1 := hid (fun (w : World) (u v : Value) => cTimes (w := w) (u := u) (v := v) N1 N4 (by omega) (by omega))
  have T2 := hid (fun (w : World) (u v : Value) => cTimes (w := w) (u := u) (v := v) N3 N2 (by omega) (by omega))
  have T3 := hid (fun (w : World) (u v : Value) => cTimes (w := w) (u := u) (v := v) N2 N4 (by omega) (by omega))
  rw [← hX] at T1 hs1 hs2 hs3
  rw [← hY] at T2 hs1 hs2 hs3
  rw [← hD] at T3 hs1 hs2 hs3
  have P1 := hid (fun (w : World) (u v : Value) => cPlus (w := w) (u := u) (v := v) NX NY (by omega) (by omega))
  have P2 := hid (fun (h : X < Y) (w : World) (u v : Value) => cMinus (w := w) (u := u) (v := v) (y := X) NY (by omega) (Nat.le_of_lt h))
  have P3 := hid (fun (h : Y ≤ X) (w : World) (u v : Value) => cMinus (w := w) (u := u) (v := v) (y := Y) NX (by omega) h)
  have R1 := hid (fun (w : World) (u v : Value) => rreduced_any (qNeg p) u v (X + Y) D (m + n + 1) w (NX.add NY) (ND.mono (by omega)) (by omega) hD0)
  have R2 := hid (fun (w : World) (u v : Value) => rreduced_any (qNeg q) u v (Y - X) D (m + n) w (NY.le (Nat.sub_le _ _)) ND (by omega) hD0)
  have R3 := hid (fun (w : World) (u v : Value) => rreduced_any (qNeg p) u v (X - Y) D (m + n) w (NX.le (Nat.sub_le _ _)) ND (by omega) hD0)
  have HS1 := hid hs1
  have HS2 := hid hs2
  have HS3 := hid hs3
  have CO := hid (fun (w : World) (u v : Value) => cOrder (x := X) (y := Y) (w := w) (u := u) (v := v))
  have hx0 := hid (Bx3.new w (enc p) (enc q))
  have en1 : (enc p).neg = qNeg p := rfl
  have en2 : (enc q).neg = qNeg q := rfl
  generalize enc p = a at *
  generalize enc q = b at *
  generalize qNeg p = sp at *
  generalize qNeg q = sq at *
  unfold vRat
  clear hs1 hs2 hs3 hX hY hD NX NY ND N1 N2 N3 N4 hp hq hp0 hq0 es1 es2 hd1 hd2 hD0
  subst en1 en2
  go_enter Tryz.func69, Tryz.ntmps69
  go_wp2_with fail
  refine Calls.mono (H1.out _) ?_
  rintro e w1 ⟨u1, rfl, hu1, hb1⟩
  have hx1 := hx0.out.next hb1
  obtain ⟨z0, z1, z2, z3, z4⟩ := hx1.2.1.facts
  clear hx0 H1
  go_wp2_with fail
  refine Calls.mono (H2.out _) ?_
  rintro e w2 ⟨u2, rfl, hu2, hb2⟩
  have hx2 := hx1.next hb2
  have hu1 := hu1.below hb2
  clear z0 z1 z2 z3 z4 hx1 H2
  obtain ⟨z0, z1, z2, z3, z4⟩ := hx2.1.facts
  go_wp2_with fail
  refine Calls.mono (H3.out _) ?_
  rintro e w3 ⟨u3, rfl, hu3, hb3⟩
  go_wp2_with fail
  refine Calls.mono (T1.out _ _ _ hu3 (hu2.below hb3)) ?_
  rintro e w4 ⟨ux, rfl, hux, hb4⟩
  have hx4 := (hx2.next hb3).next hb4
  have hu1 := (hu1.below hb3).below hb4
  have hu2 := (hu2.below hb3).below hb4
  clear z0 z1 z2 z3 z4 hx2 H3 hu3
  obtain ⟨z0, z1, z2, z3, z4⟩ := hx4.2.1.facts
  go_wp2_with fail
  refine Calls.mono (H4.out _) ?_
  rintro e w5 ⟨u4, rfl, hu4, hb5⟩
  go_wp2_with fail
  refine Calls.mono (T2.out _ _ _ hu4 (hu1.below hb5)) ?_
  rintro e w6 ⟨uy, rfl, huy, hb6⟩
  have hx6 := (hx4.next hb5).next hb6
  have hu1 := (hu1.below hb5).below hb6
  have hu2 := (hu2.below hb5).below hb6
  have hux := (hux.below hb5).below hb6
  clear z0 z1 z2 z3 z4 hx4 H4 hu4
  go_wp2_with fail
  refine Calls.mono (T3.out _ _ _ hu1 hu2) ?_
  rintro e w7 ⟨ud, rfl, hud, hb7⟩
  have hx7 := hx6.next hb7
  have hux := hux.below hb7
  have huy := huy.below hb7
  clear hx6 T1 T2 T3 hu1 hu2
  obtain ⟨z0, z1, z2, z3, z4⟩ := hx7.1.facts
  obtain ⟨y0, y1, y2, y3, y4⟩ := hx7.2.1.facts
  by_cases hs : a.neg = b.neg
  · have hk7 := hid (fun (W : World) (hb : Below w7.drew.heap.size w7.drew W) => hx7.drew.next hb)
    have HD7 := hid hud.drew
    have HX7 := hid hux.drew
    have HY7 := hid huy.drew
    clear hx7 hud hux huy
    have hE := hid (HS1.out hs)
    have e : (a.neg == b.neg) = true := by simp [hs]
    clear hs y1 y2 y3 y4 HS2 HS3 R2 R3 P2 P3 CO HS1
    go_wp2_with fail
    go_region_with (first
      | (go_at_call 97; refine Calls.mono (P1.out _ _ _ ?_ ?_) ?_; exact HX7.out; exact HY7.out; rintro e w8 ⟨r, rfl, hr, hb8⟩; have hx8 := hk7.out _ hb8; obtain ⟨x0, x1, x2, x3, x4⟩ := hx8.1.facts)
      | (go_at_call 96; refine Calls.mono (R1.out _ _ _ ?_ ?_) ?_; exact hr; exact HD7.out.below hb8; rintro e w9 ⟨rfl, hb9⟩; unfold vRat; have hx9 := hx8.next hb9; obtain ⟨t0, t1, t2, t3, t4⟩ := hx9.2.2.1.facts))
    all_goals (go_wp2; refine ret_blk3 (hx9.ret _).1 (fun W' c0 c1 c2 => by simp [results, Tryz.results69, go_sem, c0, c1, c2]) rfl ⟨?_, (hx9.ret _).2⟩; rw [hE.out])
  have e : (a.neg == b.neg) = false := by simp [hs]
  have HSS := hid hs
  have CO7 := hid (CO.out _ _ _ hux huy)
  clear hs P1 R1 HS1
  by_cases hl : X < Y
  · have hE := hid (HS2.out HSS.out hl)
    have P2' := hid (P2.out hl)
    rw [natCmp_lt hl] at CO7
    clear hl P2 P3 HS2 HS3 CO R3
    go_wp2_with fail
    refine Calls.mono CO7.out ?_
    rintro e8 w8 ⟨rfl, hb8⟩
    have hx8 := hx7.next hb8
    clear z0 z1 z2 z3 z4 y0 y1 y2 y3 y4
    obtain ⟨z0, z1, z2, z3, z4⟩ := hx8.2.1.facts
    have hk8 := hid (fun (W : World) (hb : Below w8.drew.heap.size w8.drew W) => hx8.drew.next hb)
    have HD8 := hid (hud.below hb8).drew
    have HX8 := hid (hux.below hb8).drew
    have HY8 := hid (huy.below hb8).drew
    clear hx8 hx7 hud hux huy CO7 hb8
    go_wp2_with fail
    go_region_with (first
      | (go_at_call 99; refine Calls.mono (P2'.out _ _ _ ?_ ?_) ?_; exact HY8.out; exact HX8.out; rintro e w9 ⟨r, rfl, hr, hb9⟩; have hx9 := hk8.out _ hb9; obtain ⟨x0, x1, x2, x3, x4⟩ := hx9.2.1.facts)
      | (go_at_call 96; refine Calls.mono (R2.out _ _ _ ?_ ?_) ?_; exact hr; exact HD8.out.below hb9; rintro e wa ⟨rfl, hba⟩; unfold vRat; have hxa := hx9.next hba; obtain ⟨t0, t1, t2, t3, t4⟩ := hxa.2.2.1.facts))
    all_goals (go_wp2; refine ret_blk3 (hxa.ret _).1 (fun W' c0 c1 c2 => by simp [results, Tryz.results69, go_sem, c0, c1, c2]) rfl ⟨?_, (hxa.ret _).2⟩; rw [hE.out])
  have hE := hid (HS3.out HSS.out (Nat.le_of_not_lt hl))
  have P3' := hid (P3.out (Nat.le_of_not_lt hl))
  have hcn : ¬ natCmp X Y < 0 := by unfold natCmp; rw [if_neg hl]; split <;> omega
  clear hl P2 P3 HS2 HS3 CO R2
  go_wp2_with fail
  refine Calls.mono CO7.out ?_
  rintro e8 w8 ⟨rfl, hb8⟩
  have hx8 := hx7.next hb8
  clear z0 z1 z2 z3 z4 y0 y1 y2 y3 y4
  obtain ⟨z0, z1, z2, z3, z4⟩ := hx8.1.facts
  have hk8 := hid (fun (W : World) (hb : Below w8.drew.heap.size w8.drew W) => hx8.drew.next hb)
  have HD8 := hid (hud.below hb8).drew
  have HX8 := hid (hux.below hb8).drew
  have HY8 := hid (huy.below hb8).drew
  clear hx8 hx7 hud hux huy CO7 hb8
  go_wp2_with fail
  go_region_with (first
    | (go_at_call 99; refine Calls.mono (P3'.out _ _ _ ?_ ?_) ?_; exact HX8.out; exact HY8.out; rintro e w9 ⟨r, rfl, hr, hb9⟩; have hx9 := hk8.out _ hb9; obtain ⟨x0, x1, x2, x3, x4⟩ := hx9.1.facts)
    | (go_at_call 96; refine Calls.mono (R3.out _ _ _ ?_ ?_) ?_; exact hr; exact HD8.out.below hb9; rintro e wa ⟨rfl, hba⟩; unfold vRat; have hxa := hx9.next hba; obtain ⟨t0, t1, t2, t3, t4⟩ := hxa.2.2.1.facts))
  all_goals (go_wp2; refine ret_blk3 (hxa.ret _).1 (fun W' c0 c1 c2 => by simp [results, Tryz.results69, go_sem, c0, c1, c2]) rfl ⟨?_, (hxa.ret _).2⟩; rw [hE.out])
theorem rPlus_any (p q : Rat) (m n : Nat) (w : World) (hp : qB m p) (hq : qB n q) (hm : m ≤ 100000000000) (hn : n ≤ 100000000000) :
    Calls Tryz.prog 69 #[vRat (enc p), vRat (enc q)] w fun e w' => e = .returned (vRat (enc (p + q))) ∧ Below w.heap.size w w' := by
  by_cases h1 : p = 0
  · subst h1
    rw [Rat.zero_add]
    exact rPlus_zl _ _ ((enc_num0 0).2 rfl) w
  by_cases h2 : q = 0
  · subst h2
    rw [Rat.add_zero]
    exact rPlus_zr _ _ (fun h => h1 ((enc_num0 p).1 h)) ((enc_num0 0).2 rfl) w
  exact rPlus_nz p q m n w hp hq hm hn h1 h2
end Go.Proofs.YtogeijhepjcbgaaGreatDoor
end
section
/- Refunds, rates and what is kept, over rational numbers: plain. -/
namespace Go.Proofs.YtogeijhepjcbgaaGreatDoor
def NonNeg (l : List Rat) : Prop := ∀ x ∈ l, 0 ≤ x
theorem NonNeg.get {l : List Rat} (h : NonNeg l) (k : Nat) : 0 ≤ l.getD k 0 := by
  rcases Nat.lt_or_ge k l.length with h1 | h1
  · simp only [List.getD, List.getElem?_eq_getElem h1, Option.getD_some]
    exact h _ (List.getElem_mem h1)
  simp [List.getD, List.getElem?_eq_none h1]
end Go.Proofs.YtogeijhepjcbgaaGreatDoor
end
section
/- Refunds grow with the rates; amounts of the laws: plain. -/
namespace Go.Proofs.YtogeijhepjcbgaaGreatDoor
def qAmt (x : Nat) : Rat := if x % 5 = 0 then mkRat ((x / 5 % 23 : Nat) : Int) (1 + x / 115 % 6) else if x % 5 = 1 then (((10 * (x / 5 % 4) : Nat) : Int) : Rat) else (((x / 5 % 13 : Nat) : Int) : Rat)
theorem amt_nonneg (x : Nat) : 0 ≤ qAmt x := by
  unfold qAmt
  split
  · rw [Rat.mkRat_eq_div]
    rw [Rat.div_def]
    apply Rat.mul_nonneg
    · exact Rat.intCast_nonneg.2 (by omega)
    apply Rat.le_of_lt
    rw [Rat.inv_pos]
    exact Rat.natCast_pos.2 (by omega)
  split
  · exact Rat.intCast_nonneg.2 (by omega)
  exact Rat.intCast_nonneg.2 (by omega)
theorem amt_qB (x : Nat) : qB 1 (qAmt x) := by
  unfold qAmt
  split
  · exact qB_mkRat (by simp; omega) (by omega) (by decide)
  split
  · exact ⟨by rw [Rat.num_intCast]; simp; omega, by rw [Rat.den_intCast]; decide⟩
  exact ⟨by rw [Rat.num_intCast]; simp; omega, by rw [Rat.den_intCast]; decide⟩
end Go.Proofs.YtogeijhepjcbgaaGreatDoor
end
section
/- insolvencyref1: Minus, Less, Lesser, Greater: walked. -/
namespace Go.Proofs.YtogeijhepjcbgaaGreatDoor
open Go.RowKit
attribute [local go_sem ↓] Go.wp_at_zero Go.wp_at_succ
theorem gOpp_enc (q : Rat) : gOpp (enc q) = enc (-q) := enc_opp q
theorem sgnZ_enc (q : Rat) : sgnZ (enc q) = qSgn q := gSgn_enc q
set_option maxRecDepth 100000 in
theorem rMinus_any (p q : Rat) (m n : Nat) (w : World) (hp : qB m p) (hq : qB n q) (hm : m ≤ 100000000000) (hn : n ≤ 100000000000) :
    Calls Tryz.prog 72 #[vRat (enc p), vRat (enc q)] w fun e w' => e = .returned (vRat (enc (p - q))) ∧ Below w.heap.size w w' := by
  have hx0 := (Bx3.new w (enc p) (enc q)).drew
  have hk := hid (fun W (hb : Below _ _ W) => hx0.next hb)
  have O := hid (fun w => rOpposite_any (enc q) w)
  rw [gOpp_enc] at O
  have P := hid (fun w => rPlus_any p (-q) m n w hp hq.neg hm hn)
  rw [← Rat.sub_eq_add_neg] at P
  generalize enc p = a at *
  generalize enc q = b at *
  generalize enc (-q) = c at *
  generalize enc (p - q) = d at *
  unfold vRat
  clear hp hq hx0
  go_enter Tryz.func72, Tryz.ntmps72
  go_wp2_with fail
  go_region_with (first
    | (go_at_call 101; refine Calls.mono (O.out _) ?_; rintro e w1 ⟨rfl, hb1⟩; have hx1 := hk.out _ hb1; obtain ⟨x0, x1, x2, x3, x4⟩ := hx1.1.facts)
    | (go_at_call 69; refine Calls.mono (P.out _) ?_; rintro e w2 ⟨rfl, hb2⟩; unfold vRat; have hx2 := hx1.next hb2; obtain ⟨t0, t1, t2, t3, t4⟩ := hx2.2.2.1.facts))
  all_goals (go_wp2; refine ret_blk3 (hx2.ret _).1 (fun W' c0 c1 c2 => by simp [results, Tryz.results72, go_sem, c0, c1, c2]) rfl ⟨rfl, (hx2.ret _).2⟩)
end Go.Proofs.YtogeijhepjcbgaaGreatDoor
end
section
/- rational: Valid: walked. -/
namespace Go.Proofs.YtogeijhepjcbgaaGreatDoor
open Go.RowKit
theorem natStr_one : natStr 1 = { data := #[1] } := by
  unfold natStr; rw [natBytes_pos (by decide)]; simp [natBytes_zero]
theorem str_ne {s t : ByteArray} (h : s ≠ t) : (s.toList == t.toList) = false := by
  rw [beq_eq_false_iff_ne]
  intro e
  rw [ByteArray.toList_eq, ByteArray.toList_eq] at e
  exact h (ByteArray.ext (Array.ext' e))
theorem str_ne1 {s : ByteArray} (h : s ≠ { data := #[1] }) : (s.toList == [1]) = false := by
  rw [beq_eq_false_iff_ne]
  intro e
  rw [ByteArray.toList_eq] at e
  exact h (ByteArray.ext (Array.ext' e))
theorem gValid_1 {r : GRat} (c1 : natStr (strVal r.num) ≠ r.num) : gValid r = false := by simp [gValid, c1]
theorem gValid_2 {r : GRat} (c2 : natStr (strVal r.den) ≠ r.den) : gValid r = false := by simp [gValid, c2]
theorem gValid_3 {r : GRat} (c1 : natStr (strVal r.num) = r.num) (c2 : natStr (strVal r.den) = r.den) (h : r.num.size = 0) : gValid r = (!r.neg && decide (r.den.size = 0)) := by simp [gValid, c1, c2, h]
theorem gValid_4 {r : GRat} (c1 : natStr (strVal r.num) = r.num) (c2 : natStr (strVal r.den) = r.den) (h : ¬ r.num.size = 0) : gValid r = (decide (r.den.size = 0) || (decide (strVal r.den ≠ 1) && decide (Nat.gcd (strVal r.num) (strVal r.den) = 1))) := by simp [gValid, c1, c2, h]
theorem qValid_1 (r : GRat) (w : World) (h1 : r.num.size ≤ 500000000000) (c1 : natStr (strVal r.num) ≠ r.num) :
    Calls Tryz.prog 122 #[vRat r] w fun e w' => e = .returned (.bool false) ∧ Below w.heap.size w w' := by
  have N1 := hid (fun w => normalize_any r.num w (by unfold maxLen; omega))
  obtain ⟨neg, num, den⟩ := r
  simp only at *
  generalize natStr (strVal num) = s at *
  have e1 := str_ne c1
  unfold vRat
  simp only
  clear c1
  go_enter Tryz.func122, Tryz.ntmps122
  go_wp2
  go_quiet ((go_at_call 110; exact Calls.quiet_of_same ((N1.out _).mono fun e w' h => ⟨h.1, h.2.symm⟩)))
  go_wp2
  go_ret
  exact ⟨rfl, Below.drewN ((Below.refl _ _).alloc (Nat.le_refl _) _) _⟩
theorem qValid_2 (r : GRat) (w : World) (h1 : r.num.size ≤ 500000000000) (h2 : r.den.size ≤ 500000000000) (c1 : natStr (strVal r.num) = r.num) (c2 : natStr (strVal r.den) ≠ r.den) :
    Calls Tryz.prog 122 #[vRat r] w fun e w' => e = .returned (.bool false) ∧ Below w.heap.size w w' := by
  have N1 := hid (fun w => normalize_any r.num w (by unfold maxLen; omega))
  have N2 := hid (fun w => normalize_any r.den w (by unfold maxLen; omega))
  rw [c1] at N1
  obtain ⟨neg, num, den⟩ := r
  simp only at *
  generalize natStr (strVal den) = s at *
  have e1 := str_ne c2
  unfold vRat
  simp only
  clear c1 c2
  go_enter Tryz.func122, Tryz.ntmps122
  go_wp2
  go_quiet ((first
    | (go_at_call_of 110 (Value.string num); exact Calls.quiet_of_same ((N1.out _).mono fun e w' h => ⟨h.1, h.2.symm⟩))
    | (go_at_call_of 110 (Value.string den); exact Calls.quiet_of_same ((N2.out _).mono fun e w' h => ⟨h.1, h.2.symm⟩))))
  go_wp2
  go_ret
  exact ⟨rfl, Below.drewN ((Below.refl _ _).alloc (Nat.le_refl _) _) _⟩
theorem qValid_3 (r : GRat) (w : World) (h1 : r.num.size ≤ 500000000000) (h2 : r.den.size ≤ 500000000000) (c1 : natStr (strVal r.num) = r.num) (c2 : natStr (strVal r.den) = r.den) (h : r.num.size = 0) :
    Calls Tryz.prog 122 #[vRat r] w fun e w' => e = .returned (.bool (!r.neg && decide (r.den.size = 0))) ∧ Below w.heap.size w w' := by
  have N1 := hid (fun w => normalize_any r.num w (by unfold maxLen; omega))
  have N2 := hid (fun w => normalize_any r.den w (by unfold maxLen; omega))
  rw [c1] at N1
  rw [c2] at N2
  obtain ⟨neg, num, den⟩ := r
  simp only at *
  have hz : num = { data := #[] } := ByteArray.ext (Array.eq_empty_of_size_eq_zero h)
  subst hz
  unfold vRat
  simp only
  clear c1 c2 h h1
  cases neg
  · by_cases hd : den.size = 0
    · have hz : den = { data := #[] } := ByteArray.ext (Array.eq_empty_of_size_eq_zero hd)
      subst hz
      clear hd h2
      go_enter Tryz.func122, Tryz.ntmps122
      go_wp2
      go_quiet ((go_at_call 110; exact Calls.quiet_of_same ((N1.out _).mono fun e w' h => ⟨h.1, h.2.symm⟩)))
      go_wp2
      go_ret
      exact ⟨rfl, Below.drewN ((Below.refl _ _).alloc (Nat.le_refl _) _) _⟩
    have hne := num_ne hd
    have HR := hid (show (!false && decide (den.size = 0)) = false by simp [hd])
    rw [HR.out]
    clear hd h2
    go_enter Tryz.func122, Tryz.ntmps122
    go_wp2
    go_quiet ((first
      | (go_at_call_of 110 (Value.string { data := #[] }); exact Calls.quiet_of_same ((N1.out _).mono fun e w' h => ⟨h.1, h.2.symm⟩))
      | (go_at_call_of 110 (Value.string den); exact Calls.quiet_of_same ((N2.out _).mono fun e w' h => ⟨h.1, h.2.symm⟩))))
    go_wp2
    go_ret
    exact ⟨rfl, Below.drewN ((Below.refl _ _).alloc (Nat.le_refl _) _) _⟩
  have HR := hid (show (!true && decide (den.size = 0)) = false by simp)
  rw [HR.out]
  clear h2
  go_enter Tryz.func122, Tryz.ntmps122
  go_wp2
  go_quiet ((first
    | (go_at_call_of 110 (Value.string { data := #[] }); exact Calls.quiet_of_same ((N1.out _).mono fun e w' h => ⟨h.1, h.2.symm⟩))
    | (go_at_call_of 110 (Value.string den); exact Calls.quiet_of_same ((N2.out _).mono fun e w' h => ⟨h.1, h.2.symm⟩))))
  go_wp2
  go_ret
  exact ⟨rfl, Below.drewN ((Below.refl _ _).alloc (Nat.le_refl _) _) _⟩
end Go.Proofs.YtogeijhepjcbgaaGreatDoor
end
section
/- natural: Compare: walked. -/
namespace Go.Proofs.YtogeijhepjcbgaaGreatDoor
open Go.RowKit
theorem compareBytes_eq : ∀ (l r : List UInt8), l.length = r.length → Lib.compareBytes l r = natCmp (bytesVal l) (bytesVal r)
  | [], [], _ => by simp [Lib.compareBytes, natCmp, bytesVal]
  | [], _ :: _, h => by simp at h
  | _ :: _, [], h => by simp at h
  | a :: l, b :: r, h => by
    have hl : l.length = r.length := by simpa using h
    have ih := compareBytes_eq l r hl
    have h1 := bytesVal_lt l
    have h2 := bytesVal_lt r
    simp only [Lib.compareBytes]
    rw [ih, bytesVal_cons, bytesVal_cons, hl]
    rw [hl] at h1
    have ha : (a < b) ↔ a.toNat < b.toNat := UInt8.lt_iff_toNat_lt
    have hb : (b < a) ↔ b.toNat < a.toNat := UInt8.lt_iff_toNat_lt
    generalize 256 ^ r.length = P at *
    generalize bytesVal l = x at *
    generalize bytesVal r = y at *
    by_cases c1 : a.toNat < b.toNat
    · rw [if_pos (ha.2 c1)]
      have := Nat.mul_le_mul_right P (show a.toNat + 1 ≤ b.toNat from c1)
      rw [Nat.add_mul] at this
      unfold natCmp
      rw [if_pos (by omega)]
    rw [if_neg (fun h => c1 (ha.1 h))]
    by_cases c2 : b.toNat < a.toNat
    · rw [if_pos (hb.2 c2)]
      have := Nat.mul_le_mul_right P (show b.toNat + 1 ≤ a.toNat from c2)
      rw [Nat.add_mul] at this
      unfold natCmp
      rw [if_neg (by omega), if_pos (by omega)]
    rw [if_neg (fun h => c2 (hb.1 h))]
    have : a.toNat = b.toNat := by omega
    rw [this]
    generalize b.toNat * P = q
    unfold natCmp
    simp only [Nat.add_lt_add_iff_left]
theorem compare_natStr {x y : Nat} (h : (natStr x).size = (natStr y).size) : Lib.compareBytes (natStr x).data.toList (natStr y).data.toList = natCmp x y := by
  rw [natStr_size, natStr_size] at h
  have := compareBytes_eq (natBytes x) (natBytes y) h
  rw [bytesVal_natBytes, bytesVal_natBytes] at this
  simpa [natStr] using this
theorem natBytes_mono {x y : Nat} (h : x ≤ y) : (natBytes x).length ≤ (natBytes y).length := natBytes_len_le (Nat.lt_of_le_of_lt h (natBytes_lt y))
theorem sign_natStr {x y : Nat} (h : (natStr x).size ≠ (natStr y).size) : signZ (((natStr x).size : Int) - ((natStr y).size : Int)) = natCmp x y := by
  rw [natStr_size, natStr_size] at *
  unfold signZ natCmp
  by_cases c : x < y
  · have := natBytes_mono (Nat.le_of_lt c)
    rw [if_pos c, if_pos (by omega)]
  have := natBytes_mono (Nat.le_of_not_lt c)
  rw [if_neg c, if_neg (by omega)]
  by_cases d : y < x
  · rw [if_pos d]; try rw [if_pos (by omega)]
  exfalso
  have : x = y := by omega
  subst this
  exact h rfl
theorem natStr_strVal_size (s : ByteArray) : (natStr (strVal s)).size ≤ s.size := by rw [natStr_size]; exact natBytes_len_le (strVal_lt s)
set_option maxRecDepth 100000 in
theorem Compare_any (a b : ByteArray) (w : World) (ha : a.size ≤ maxLen) (hb : b.size ≤ maxLen) :
    Calls Tryz.prog 104 #[.string a, .string b] w fun e w' => e = .returned (.int .i64 (natCmp (strVal a) (strVal b))) ∧ w = w' := by
  have H1 := hid (normalize_any a w ha)
  have H2 := hid (normalize_any b w hb)
  have sa := natStr_strVal_size a
  have sb := natStr_strVal_size b
  have hmx : (maxLen : Nat) ≤ 9223372036854775807 := by unfold maxLen; omega
  have hsa : (natStr (strVal a)).size ≤ 9223372036854775807 := by omega
  have hsb : (natStr (strVal b)).size ≤ 9223372036854775807 := by omega
  by_cases h : (natStr (strVal a)).size = (natStr (strVal b)).size
  · have HC := hid (Tryz.strings_Compare (natStr (strVal a)) (natStr (strVal b)) w)
    rw [compare_natStr h] at HC
    generalize natCmp (strVal a) (strVal b) = c at *
    generalize natStr (strVal a) = x at *
    generalize natStr (strVal b) = y at *
    have hxy : ¬ ((x.size : Int) ≠ (y.size : Int)) := by omega
    clear sa sb ha hb hmx
    go_enter Tryz.func104, Tryz.ntmps104
    go_wp2_with fail
    refine Calls.mono H1.out ?_
    rintro e w1 ⟨rfl, rfl⟩
    go_wp2_with fail
    refine Calls.mono H2.out ?_
    rintro e w1 ⟨rfl, rfl⟩
    go_wp2_with fail
    refine Calls.mono HC.out ?_
    rintro e w1 ⟨rfl, rfl⟩
    go_wp2
    go_ret
    exact ⟨rfl, rfl⟩
  have HC := hid (sign_any (((natStr (strVal a)).size : Int) - ((natStr (strVal b)).size : Int)) w)
  rw [sign_natStr h] at HC
  generalize natCmp (strVal a) (strVal b) = c at *
  generalize natStr (strVal a) = x at *
  generalize natStr (strVal b) = y at *
  have hxy : ((x.size : Int) ≠ (y.size : Int)) := by omega
  clear sa sb ha hb hmx h
  go_enter Tryz.func104, Tryz.ntmps104
  go_wp2_with fail
  refine Calls.mono H1.out ?_
  rintro e w1 ⟨rfl, rfl⟩
  go_wp2_with fail
  refine Calls.mono H2.out ?_
  rintro e w1 ⟨rfl, rfl⟩
  go_wp2_with fail
  refine Calls.mono HC.out ?_
  rintro e w1 ⟨rfl, rfl⟩
  go_wp2
  go_ret
  exact ⟨rfl, rfl⟩
end Go.Proofs.YtogeijhepjcbgaaGreatDoor
end
section
/- rational: Valid, clean: walked. -/
namespace Go.Proofs.YtogeijhepjcbgaaGreatDoor
open Go.RowKit
theorem natStr_ne1 {n : Nat} (h : n ≠ 1) : natStr n ≠ { data := #[1] } := by
  intro e; rw [← natStr_one] at e; exact h (natStr_inj e)
theorem qValid_4 (r : GRat) (w : World) (h1 : r.num.size ≤ 500000000000) (h2 : r.den.size ≤ 500000000000) (c1 : natStr (strVal r.num) = r.num) (c2 : natStr (strVal r.den) = r.den) (h : ¬ r.num.size = 0) :
    Calls Tryz.prog 122 #[vRat r] w fun e w' => e = .returned (.bool (decide (r.den.size = 0) || (decide (strVal r.den ≠ 1) && decide (Nat.gcd (strVal r.num) (strVal r.den) = 1)))) ∧ Below w.heap.size w w' := by
  have N1 := hid (fun w => normalize_any r.num w (by unfold maxLen; omega))
  have N2 := hid (fun w => normalize_any r.den w (by unfold maxLen; omega))
  rw [c1] at N1
  rw [c2] at N2
  have G := hid (fun w => GCD_any r.num r.den w h1 h2)
  obtain ⟨neg, num, den⟩ := r
  simp only at *
  have hne := num_ne h
  unfold vRat
  simp only
  by_cases hd : den.size = 0
  · have hz : den = { data := #[] } := ByteArray.ext (Array.eq_empty_of_size_eq_zero hd)
    subst hz
    clear hd h2 c1 c2 h h1 G
    go_enter Tryz.func122, Tryz.ntmps122
    go_wp2
    go_quiet ((first
      | (go_at_call_of 110 (Value.string num); exact Calls.quiet_of_same ((N1.out _).mono fun e w' h => ⟨h.1, h.2.symm⟩))
      | (go_at_call_of 110 (Value.string { data := #[] }); exact Calls.quiet_of_same ((N2.out _).mono fun e w' h => ⟨h.1, h.2.symm⟩))))
    go_wp2
    go_ret
    exact ⟨rfl, Below.drewN ((Below.refl _ _).alloc (Nat.le_refl _) _) _⟩
  have hne2 := num_ne hd
  by_cases ho : strVal den = 1
  · rw [ho, natStr_one] at c2
    subst c2
    have HR := hid (show (decide (({ data := #[1] } : ByteArray).size = 0) || (decide (strVal { data := #[1] } ≠ 1) && decide (Nat.gcd (strVal num) (strVal { data := #[1] }) = 1))) = false by rw [ho]; simp only [ne_eq, not_true, decide_false, Bool.false_and, Bool.or_false]; exact decide_eq_false hd)
    rw [HR.out]
    clear hd h2 c1 h h1 G ho hne2
    go_enter Tryz.func122, Tryz.ntmps122
    go_wp2
    go_quiet ((first
      | (go_at_call_of 110 (Value.string num); exact Calls.quiet_of_same ((N1.out _).mono fun e w' h => ⟨h.1, h.2.symm⟩))
      | (go_at_call_of 110 (Value.string { data := #[1] }); exact Calls.quiet_of_same ((N2.out _).mono fun e w' h => ⟨h.1, h.2.symm⟩))))
    go_wp2
    go_ret
    exact ⟨rfl, Below.drewN ((Below.refl _ _).alloc (Nat.le_refl _) _) _⟩
  have hn1 := str_ne1 (s := den) (fun e => ho (by rw [e, ← natStr_one]; exact strVal_natStr 1))
  by_cases hg : Nat.gcd (strVal num) (strVal den) = 1
  · rw [hg, natStr_one] at G
    have HR := hid (show (decide (den.size = 0) || (decide (strVal den ≠ 1) && decide (Nat.gcd (strVal num) (strVal den) = 1))) = true by simp [ho, hg])
    rw [HR.out]
    clear hd h2 c1 c2 h h1 ho hg
    go_enter Tryz.func122, Tryz.ntmps122
    go_wp2
    go_quiet ((first
      | (go_at_call_of 110 (Value.string num); exact Calls.quiet_of_same ((N1.out _).mono fun e w' h => ⟨h.1, h.2.symm⟩))
      | (go_at_call_of 110 (Value.string den); exact Calls.quiet_of_same ((N2.out _).mono fun e w' h => ⟨h.1, h.2.symm⟩))))
    go_wp2_with fail
    refine Calls.mono (G.out _) ?_
    rintro e w1 ⟨rfl, hb1⟩
    go_wp2
    go_ret
    exact ⟨rfl, Below.step (Below.drewN ((Below.refl _ _).alloc (Nat.le_refl _) _) _) hb1⟩
  have hn3 := str_ne1 (natStr_ne1 hg)
  have HR := hid (show (decide (den.size = 0) || (decide (strVal den ≠ 1) && decide (Nat.gcd (strVal num) (strVal den) = 1))) = false by simp [hd, hg])
  rw [HR.out]
  generalize natStr (Nat.gcd (strVal num) (strVal den)) = gs at *
  clear hd h2 c1 c2 h h1 ho hg HR
  go_enter Tryz.func122, Tryz.ntmps122
  go_wp2
  go_quiet ((first
    | (go_at_call_of 110 (Value.string num); exact Calls.quiet_of_same ((N1.out _).mono fun e w' h => ⟨h.1, h.2.symm⟩))
    | (go_at_call_of 110 (Value.string den); exact Calls.quiet_of_same ((N2.out _).mono fun e w' h => ⟨h.1, h.2.symm⟩))))
  go_wp2_with fail
  refine Calls.mono (G.out _) ?_
  rintro e w1 ⟨rfl, hb1⟩
  go_wp2
  go_ret
  exact ⟨rfl, Below.step (Below.drewN ((Below.refl _ _).alloc (Nat.le_refl _) _) _) hb1⟩
theorem qValid_any (r : GRat) (w : World) (h1 : r.num.size ≤ 500000000000) (h2 : r.den.size ≤ 500000000000) :
    Calls Tryz.prog 122 #[vRat r] w fun e w' => e = .returned (.bool (gValid r)) ∧ Below w.heap.size w w' := by
  by_cases c1 : natStr (strVal r.num) = r.num
  · by_cases c2 : natStr (strVal r.den) = r.den
    · by_cases h : r.num.size = 0
      · rw [gValid_3 c1 c2 h]; exact qValid_3 r w h1 h2 c1 c2 h
      rw [gValid_4 c1 c2 h]; exact qValid_4 r w h1 h2 c1 c2 h
    rw [gValid_2 c2]; exact qValid_2 r w h1 h2 c1 c2
  rw [gValid_1 c1]; exact qValid_1 r w h1 c1
theorem qclean_any (r : GRat) (w : World) (h1 : r.num.size ≤ 500000000000) (h2 : r.den.size ≤ 500000000000) :
    Calls Tryz.prog 92 #[vRat r] w fun e w' => e = .returned (vRat (enc (qOf r))) ∧ Below w.heap.size w w' := by
  have V := hid (fun w => qValid_any r w h1 h2)
  have hx0 := hid (Bx2.new w r gZ)
  clear h1 h2
  by_cases h : gValid r = true
  · rw [qOf_ok h]
    rw [h] at V
    unfold vRat
    clear h
    go_enter Tryz.func92, Tryz.ntmps92
    go_wp2_with fail
    refine Calls.mono (V.out _) ?_
    rintro e w1 ⟨rfl, hb1⟩
    have hx1 := hx0.out.next hb1
    obtain ⟨x0, x1, x2, x3, x4⟩ := hx1.1.facts
    obtain ⟨t0, t1, t2, t3, t4⟩ := hx1.2.1.facts
    go_wp2
    refine ret_blk3 (hx1.ret _).1 (fun W' c0 c1 c2 => by simp [results, Tryz.results92, go_sem, c0, c1, c2]) rfl ⟨rfl, (hx1.ret _).2⟩
  have h' : gValid r = false := by simpa using h
  rw [qOf_bad h', ← gZ_enc]
  rw [h'] at V
  unfold vRat
  clear h h'
  go_enter Tryz.func92, Tryz.ntmps92
  go_wp2_with fail
  refine Calls.mono (V.out _) ?_
  rintro e w1 ⟨rfl, hb1⟩
  have hx1 := hx0.out.next hb1
  obtain ⟨t0, t1, t2, t3, t4⟩ := hx1.2.1.facts
  go_wp2
  refine ret_blk3 (hx1.ret gZ).1 (fun W' c0 c1 c2 => by simp [results, Tryz.results92, go_sem, c0, c1, c2]) rfl ⟨rfl, (hx1.ret gZ).2⟩
end Go.Proofs.YtogeijhepjcbgaaGreatDoor
end
section
/- insolvencyref1: Valid, Fix: walked. -/
namespace Go.Proofs.YtogeijhepjcbgaaGreatDoor
open Go.RowKit
theorem rValid_1 (r : GRat) (w : World) (h1 : r.num.size ≤ 500000000000) (c1 : natStr (strVal r.num) ≠ r.num) :
    Calls Tryz.prog 100 #[vRat r] w fun e w' => e = .returned (.bool false) ∧ Below w.heap.size w w' := by
  have N1 := hid (fun w => rNormalize_any r.num w (by unfold maxLen; omega))
  obtain ⟨neg, num, den⟩ := r
  simp only at *
  generalize natStr (strVal num) = s at *
  have e1 := str_ne c1
  unfold vRat
  simp only
  clear c1
  go_enter Tryz.func100, Tryz.ntmps100
  go_wp2
  go_quiet ((go_at_call 124; exact Calls.quiet_of_same ((N1.out _).mono fun e w' h => ⟨h.1, h.2.symm⟩)))
  go_wp2
  go_ret
  exact ⟨rfl, Below.drewN ((Below.refl _ _).alloc (Nat.le_refl _) _) _⟩
theorem rValid_2 (r : GRat) (w : World) (h1 : r.num.size ≤ 500000000000) (h2 : r.den.size ≤ 500000000000) (c1 : natStr (strVal r.num) = r.num) (c2 : natStr (strVal r.den) ≠ r.den) :
    Calls Tryz.prog 100 #[vRat r] w fun e w' => e = .returned (.bool false) ∧ Below w.heap.size w w' := by
  have N1 := hid (fun w => rNormalize_any r.num w (by unfold maxLen; omega))
  have N2 := hid (fun w => rNormalize_any r.den w (by unfold maxLen; omega))
  rw [c1] at N1
  obtain ⟨neg, num, den⟩ := r
  simp only at *
  generalize natStr (strVal den) = s at *
  have e1 := str_ne c2
  unfold vRat
  simp only
  clear c1 c2
  go_enter Tryz.func100, Tryz.ntmps100
  go_wp2
  go_quiet ((first
    | (go_at_call_of 124 (Value.string num); exact Calls.quiet_of_same ((N1.out _).mono fun e w' h => ⟨h.1, h.2.symm⟩))
    | (go_at_call_of 124 (Value.string den); exact Calls.quiet_of_same ((N2.out _).mono fun e w' h => ⟨h.1, h.2.symm⟩))))
  go_wp2
  go_ret
  exact ⟨rfl, Below.drewN ((Below.refl _ _).alloc (Nat.le_refl _) _) _⟩
theorem rValid_3 (r : GRat) (w : World) (h1 : r.num.size ≤ 500000000000) (h2 : r.den.size ≤ 500000000000) (c1 : natStr (strVal r.num) = r.num) (c2 : natStr (strVal r.den) = r.den) (h : r.num.size = 0) (ho : strVal r.den ≠ 1) :
    Calls Tryz.prog 100 #[vRat r] w fun e w' => e = .returned (.bool (!r.neg && decide (r.den.size = 0))) ∧ Below w.heap.size w w' := by
  have N1 := hid (fun w => rNormalize_any r.num w (by unfold maxLen; omega))
  have N2 := hid (fun w => rNormalize_any r.den w (by unfold maxLen; omega))
  rw [c1] at N1
  rw [c2] at N2
  obtain ⟨neg, num, den⟩ := r
  simp only at *
  have hz : num = { data := #[] } := ByteArray.ext (Array.eq_empty_of_size_eq_zero h)
  subst hz
  unfold vRat
  simp only
  clear c1 c2 h h1
  cases neg
  · by_cases hd : den.size = 0
    · have hz : den = { data := #[] } := ByteArray.ext (Array.eq_empty_of_size_eq_zero hd)
      subst hz
      clear hd h2 ho
      have hn1 : ((({ data := #[] } : ByteArray).toList) == [1]) = false := by rw [ByteArray.toList_eq]; rfl
      go_enter Tryz.func100, Tryz.ntmps100
      go_wp2
      go_quiet ((go_at_call 124; exact Calls.quiet_of_same ((N1.out _).mono fun e w' h => ⟨h.1, h.2.symm⟩)))
      go_wp2
      go_ret
      exact ⟨rfl, Below.drewN ((Below.refl _ _).alloc (Nat.le_refl _) _) _⟩
    have hne := num_ne hd
    have HR := hid (show (!false && decide (den.size = 0)) = false by simp [hd])
    rw [HR.out]
    have hn1 := str_ne1 (s := den) (fun e => ho (by rw [e, ← natStr_one]; exact strVal_natStr 1))
    clear hd h2 ho
    go_enter Tryz.func100, Tryz.ntmps100
    go_wp2
    go_quiet ((first
      | (go_at_call_of 124 (Value.string { data := #[] }); exact Calls.quiet_of_same ((N1.out _).mono fun e w' h => ⟨h.1, h.2.symm⟩))
      | (go_at_call_of 124 (Value.string den); exact Calls.quiet_of_same ((N2.out _).mono fun e w' h => ⟨h.1, h.2.symm⟩))))
    go_wp2
    go_ret
    exact ⟨rfl, Below.drewN ((Below.refl _ _).alloc (Nat.le_refl _) _) _⟩
  have HR := hid (show (!true && decide (den.size = 0)) = false by simp)
  rw [HR.out]
  have hn1 := str_ne1 (s := den) (fun e => ho (by rw [e, ← natStr_one]; exact strVal_natStr 1))
  clear h2 ho
  go_enter Tryz.func100, Tryz.ntmps100
  go_wp2
  go_quiet ((first
    | (go_at_call_of 124 (Value.string { data := #[] }); exact Calls.quiet_of_same ((N1.out _).mono fun e w' h => ⟨h.1, h.2.symm⟩))
    | (go_at_call_of 124 (Value.string den); exact Calls.quiet_of_same ((N2.out _).mono fun e w' h => ⟨h.1, h.2.symm⟩))))
  go_wp2
  go_ret
  exact ⟨rfl, Below.drewN ((Below.refl _ _).alloc (Nat.le_refl _) _) _⟩
theorem rValid_o (r : GRat) (w : World) (h1 : r.num.size ≤ 500000000000) (h2 : r.den.size ≤ 500000000000) (c1 : natStr (strVal r.num) = r.num) (c2 : natStr (strVal r.den) = r.den) (ho : strVal r.den = 1) :
    Calls Tryz.prog 100 #[vRat r] w fun e w' => e = .returned (.bool false) ∧ Below w.heap.size w w' := by
  have N1 := hid (fun w => rNormalize_any r.num w (by unfold maxLen; omega))
  have N2 := hid (fun w => rNormalize_any r.den w (by unfold maxLen; omega))
  rw [c1] at N1
  rw [c2] at N2
  obtain ⟨neg, num, den⟩ := r
  simp only at *
  rw [ho, natStr_one] at c2
  subst c2
  unfold vRat
  simp only
  clear c1 h1 h2 ho
  go_enter Tryz.func100, Tryz.ntmps100
  go_wp2
  go_quiet ((first
    | (go_at_call_of 124 (Value.string num); exact Calls.quiet_of_same ((N1.out _).mono fun e w' h => ⟨h.1, h.2.symm⟩))
    | (go_at_call_of 124 (Value.string { data := #[1] }); exact Calls.quiet_of_same ((N2.out _).mono fun e w' h => ⟨h.1, h.2.symm⟩))))
  go_wp2
  go_ret
  exact ⟨rfl, Below.drewN ((Below.refl _ _).alloc (Nat.le_refl _) _) _⟩
theorem rValid_4 (r : GRat) (w : World) (h1 : r.num.size ≤ 500000000000) (h2 : r.den.size ≤ 500000000000) (c1 : natStr (strVal r.num) = r.num) (c2 : natStr (strVal r.den) = r.den) (h : ¬ r.num.size = 0) (ho : strVal r.den ≠ 1) :
    Calls Tryz.prog 100 #[vRat r] w fun e w' => e = .returned (.bool (decide (r.den.size = 0) || (decide (strVal r.den ≠ 1) && decide (Nat.gcd (strVal r.num) (strVal r.den) = 1)))) ∧ Below w.heap.size w w' := by
  have N1 := hid (fun w => rNormalize_any r.num w (by unfold maxLen; omega))
  have N2 := hid (fun w => rNormalize_any r.den w (by unfold maxLen; omega))
  rw [c1] at N1
  rw [c2] at N2
  have G := hid (fun w => rGCD_any r.num r.den w h1 h2)
  obtain ⟨neg, num, den⟩ := r
  simp only at *
  have hne := num_ne h
  unfold vRat
  simp only
  by_cases hd : den.size = 0
  · have hz : den = { data := #[] } := ByteArray.ext (Array.eq_empty_of_size_eq_zero hd)
    subst hz
    clear hd h2 c1 c2 h h1 G ho
    have hn1 : ((({ data := #[] } : ByteArray).toList) == [1]) = false := by rw [ByteArray.toList_eq]; rfl
    go_enter Tryz.func100, Tryz.ntmps100
    go_wp2
    go_quiet ((first
      | (go_at_call_of 124 (Value.string num); exact Calls.quiet_of_same ((N1.out _).mono fun e w' h => ⟨h.1, h.2.symm⟩))
      | (go_at_call_of 124 (Value.string { data := #[] }); exact Calls.quiet_of_same ((N2.out _).mono fun e w' h => ⟨h.1, h.2.symm⟩))))
    go_wp2
    go_ret
    exact ⟨rfl, Below.drewN ((Below.refl _ _).alloc (Nat.le_refl _) _) _⟩
  have hne2 := num_ne hd
  have hn1 := str_ne1 (s := den) (fun e => ho (by rw [e, ← natStr_one]; exact strVal_natStr 1))
  by_cases hg : Nat.gcd (strVal num) (strVal den) = 1
  · rw [hg, natStr_one] at G
    have HR := hid (show (decide (den.size = 0) || (decide (strVal den ≠ 1) && decide (Nat.gcd (strVal num) (strVal den) = 1))) = true by simp [ho, hg])
    rw [HR.out]
    clear hd h2 c1 c2 h h1 ho hg
    go_enter Tryz.func100, Tryz.ntmps100
    go_wp2
    go_quiet ((first
      | (go_at_call_of 124 (Value.string num); exact Calls.quiet_of_same ((N1.out _).mono fun e w' h => ⟨h.1, h.2.symm⟩))
      | (go_at_call_of 124 (Value.string den); exact Calls.quiet_of_same ((N2.out _).mono fun e w' h => ⟨h.1, h.2.symm⟩))))
    go_wp2_with fail
    refine Calls.mono (G.out _) ?_
    rintro e w1 ⟨rfl, hb1⟩
    go_wp2
    go_ret
    exact ⟨rfl, Below.step (Below.drewN ((Below.refl _ _).alloc (Nat.le_refl _) _) _) hb1⟩
  have hn3 := str_ne1 (natStr_ne1 hg)
  have HR := hid (show (decide (den.size = 0) || (decide (strVal den ≠ 1) && decide (Nat.gcd (strVal num) (strVal den) = 1))) = false by simp [hd, hg])
  rw [HR.out]
  generalize natStr (Nat.gcd (strVal num) (strVal den)) = gs at *
  clear hd h2 c1 c2 h h1 ho hg HR
  go_enter Tryz.func100, Tryz.ntmps100
  go_wp2
  go_quiet ((first
    | (go_at_call_of 124 (Value.string num); exact Calls.quiet_of_same ((N1.out _).mono fun e w' h => ⟨h.1, h.2.symm⟩))
    | (go_at_call_of 124 (Value.string den); exact Calls.quiet_of_same ((N2.out _).mono fun e w' h => ⟨h.1, h.2.symm⟩))))
  go_wp2_with fail
  refine Calls.mono (G.out _) ?_
  rintro e w1 ⟨rfl, hb1⟩
  go_wp2
  go_ret
  exact ⟨rfl, Below.step (Below.drewN ((Below.refl _ _).alloc (Nat.le_refl _) _) _) hb1⟩
theorem rValid_any (r : GRat) (w : World) (h1 : r.num.size ≤ 500000000000) (h2 : r.den.size ≤ 500000000000) :
    Calls Tryz.prog 100 #[vRat r] w fun e w' => e = .returned (.bool (gValid r)) ∧ Below w.heap.size w w' := by
  by_cases c1 : natStr (strVal r.num) = r.num
  · by_cases c2 : natStr (strVal r.den) = r.den
    · by_cases ho : strVal r.den = 1
      · have hd : ¬ r.den.size = 0 := fun h => by rw [strVal_zero_of h] at ho; cases ho
        have hf : gValid r = false := by
          by_cases h : r.num.size = 0
          · rw [gValid_3 c1 c2 h]; simp [hd]
          rw [gValid_4 c1 c2 h]; simp [hd, ho]
        rw [hf]; exact rValid_o r w h1 h2 c1 c2 ho
      by_cases h : r.num.size = 0
      · rw [gValid_3 c1 c2 h]; exact rValid_3 r w h1 h2 c1 c2 h ho
      rw [gValid_4 c1 c2 h]; exact rValid_4 r w h1 h2 c1 c2 h ho
    rw [gValid_2 c2]; exact rValid_2 r w h1 h2 c1 c2
  rw [gValid_1 c1]; exact rValid_1 r w h1 c1
theorem rFix_any (r : GRat) (w : World) (h1 : r.num.size ≤ 500000000000) (h2 : r.den.size ≤ 500000000000) :
    Calls Tryz.prog 70 #[vRat r] w fun e w' => e = .returned (vRat (enc (qOf r))) ∧ Below w.heap.size w w' := by
  have V := hid (fun w => rValid_any r w h1 h2)
  have hx0 := hid (Bx2.new w r gZ)
  clear h1 h2
  by_cases h : gValid r = true
  · rw [qOf_ok h]
    rw [h] at V
    unfold vRat
    clear h
    go_enter Tryz.func70, Tryz.ntmps70
    go_wp2_with fail
    refine Calls.mono (V.out _) ?_
    rintro e w1 ⟨rfl, hb1⟩
    have hx1 := hx0.out.next hb1
    obtain ⟨x0, x1, x2, x3, x4⟩ := hx1.1.facts
    obtain ⟨t0, t1, t2, t3, t4⟩ := hx1.2.1.facts
    go_wp2
    refine ret_blk3 (hx1.ret _).1 (fun W' c0 c1 c2 => by simp [results, Tryz.results70, go_sem, c0, c1, c2]) rfl ⟨rfl, (hx1.ret _).2⟩
  have h' : gValid r = false := by simpa using h
  rw [qOf_bad h', ← gZ_enc]
  rw [h'] at V
  unfold vRat
  clear h h'
  go_enter Tryz.func70, Tryz.ntmps70
  go_wp2_with fail
  refine Calls.mono (V.out _) ?_
  rintro e w1 ⟨rfl, hb1⟩
  have hx1 := hx0.out.next hb1
  obtain ⟨t0, t1, t2, t3, t4⟩ := hx1.2.1.facts
  go_wp2
  refine ret_blk3 (hx1.ret gZ).1 (fun W' c0 c1 c2 => by simp [results, Tryz.results70, go_sem, c0, c1, c2]) rfl ⟨rfl, (hx1.ret gZ).2⟩
end Go.Proofs.YtogeijhepjcbgaaGreatDoor
end
section
/- rational: den, signOf, negate, magnitude: walked. -/
namespace Go.Proofs.YtogeijhepjcbgaaGreatDoor
open Go.RowKit
theorem qden_enc (q : Rat) (w : World) : Calls Tryz.prog 106 #[vRat (enc q)] w fun e w' => e = .returned (.string (natStr q.den)) ∧ Below w.heap.size w w' := by
  by_cases h : q.den = 1
  · have e1 : (enc q).den = { data := #[] } := by unfold enc; simp only [h, if_true]; rfl
    rw [h, natStr_one]
    unfold vRat
    rw [e1]
    generalize enc q = a at *
    clear h e1
    go_enter Tryz.func106, Tryz.ntmps106
    go_wp2
    go_ret
    exact ⟨rfl, (Below.refl _ _).alloc (Nat.le_refl _) _⟩
  have e1 : (enc q).den = natStr q.den := by unfold enc; simp only [h, if_false]
  have hne := num_ne (natStr_ne q.den_nz)
  unfold vRat
  rw [e1]
  generalize natStr q.den = d at *
  generalize enc q = a at *
  clear h e1
  go_enter Tryz.func106, Tryz.ntmps106
  go_wp2
  go_ret
  exact ⟨rfl, (Below.refl _ _).alloc (Nat.le_refl _) _⟩
theorem qsignOf_any (r : GRat) (w : World) : Calls Tryz.prog 102 #[vRat r] w fun e w' => e = .returned (.int .i64 (sgnZ r)) ∧ Below w.heap.size w w' := by
  unfold vRat
  by_cases h : r.num.size = 0
  · have hz : r.num = { data := #[] } := ByteArray.ext (Array.eq_empty_of_size_eq_zero h)
    have hR := hid (show sgnZ r = 0 by unfold sgnZ; rw [if_pos h])
    rw [hz]
    clear h hz
    go_enter Tryz.func102, Tryz.ntmps102
    go_wp2
    go_ret
    exact ⟨ret_int hR.out.symm, (Below.refl _ _).alloc (Nat.le_refl _) _⟩
  have hz := num_ne h
  cases hn : r.neg with
  | true =>
    have hR := hid (show sgnZ r = -1 by unfold sgnZ; rw [if_neg h, if_pos hn])
    clear h hn
    go_enter Tryz.func102, Tryz.ntmps102
    go_wp2
    go_ret
    exact ⟨ret_int hR.out.symm, (Below.refl _ _).alloc (Nat.le_refl _) _⟩
  | false =>
    have hR := hid (show sgnZ r = 1 by unfold sgnZ; rw [if_neg h, if_neg (by rw [hn]; decide)])
    clear h hn
    go_enter Tryz.func102, Tryz.ntmps102
    go_wp2
    go_ret
    exact ⟨ret_int hR.out.symm, (Below.refl _ _).alloc (Nat.le_refl _) _⟩
end Go.Proofs.YtogeijhepjcbgaaGreatDoor
end
