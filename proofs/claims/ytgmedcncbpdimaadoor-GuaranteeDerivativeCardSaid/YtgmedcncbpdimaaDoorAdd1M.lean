/- rational: add: walked. -/
import Derived.Test.YtgmedcncbpdimaaDoorSm1M
import Derived.Deep.RegionHeld3
import Derived.Deep.DeepCutAuto
set_option linter.unusedVariables false
set_option linter.unusedSimpArgs false
/- rational: add: walked. -/
namespace Go.Proofs.YtgmedcncbpdimaaDoor
open Go.RowKit
attribute [local go_sem ↓] Go.wp_at_zero Go.wp_at_succ

def SumOf (p q : Rat) (k X Y D : Nat) : Prop := NB k X ∧ NB k Y ∧ NB k D ∧ 0 < D ∧ (qNeg p = qNeg q → p + q = mkRat (sg (qNeg p) (X + Y)) D) ∧
  (qNeg p ≠ qNeg q → X < Y → p + q = mkRat (sg (qNeg q) (Y - X)) D) ∧ (qNeg p ≠ qNeg q → Y ≤ X → p + q = mkRat (sg (qNeg p) (X - Y)) D)
theorem sumOf_ne {p q : Rat} {m n : Nat} (hp : qB m p) (hq : qB n q) : SumOf p q (m + n) (p.num.natAbs * q.den) (q.num.natAbs * p.den) (p.den * q.den) :=
  ⟨NB.mul hp.1 hq.2, by rw [Nat.add_comm]; exact NB.mul hq.1 hp.2, NB.mul hp.2 hq.2, Nat.mul_pos p.den_pos q.den_pos, fun h => qadd_same h, fun h => qadd_lt h, fun h => qadd_ge h⟩
theorem sumOf_eq {p q : Rat} {m n : Nat} (hp : qB m p) (hq : qB n q) (h : p.den = q.den) : SumOf p q (m + n) p.num.natAbs q.num.natAbs p.den :=
  ⟨NB.mono hp.1 (by omega), NB.mono hq.1 (by omega), NB.mono hp.2 (by omega), p.den_pos, fun e => qadd_same' h e, fun e => qadd_lt' h e, fun e => qadd_ge' h e⟩
theorem NB.size {k n : Nat} (h : NB k n) : (natStr n).size ≤ k := by rw [natStr_size]; exact natBytes_len_le h
theorem Bx3.drewN {w w1 : World} {r1 r2 : GRat} (h : Bx3 w w1 r1 r2) (n : Nat) : Bx3 w (w1.drewN n) r1 r2 := ⟨h.1, h.2.1, h.2.2.1, h.2.2.2.drewN n⟩

set_option maxRecDepth 100000 in
set_option maxHeartbeats 2000000 in
theorem qadd_any (p q : Rat) (m n : Nat) (w : World) (hp : qB m p) (hq : qB n q) (hm : m ≤ 100000000000) (hn : n ≤ 100000000000) :
    Calls Tryd.prog 46 #[vRat (enc p), vRat (enc q)] w fun e w' => e = .returned (vRat (enc (p + q))) ∧ Below w.heap.size w w' := by
  have DA := hid (fun w => qden_enc p w)
  have DB := hid (fun w => qden_enc q w)
  have an : (enc p).num = natStr p.num.natAbs := rfl
  have bn : (enc q).num = natStr q.num.natAbs := rfl
  have s1 : (natStr p.num.natAbs).size ≤ m := NB.size hp.1
  have s2 : (natStr q.num.natAbs).size ≤ n := NB.size hq.1
  have s3 : (natStr p.den).size ≤ m := NB.size hp.2
  have s4 : (natStr q.den).size ≤ n := NB.size hq.2
  have M1 := hid (fun w => Multiply_any (enc p).num (natStr q.den) w (by rw [an]; omega) (by omega))
  have M2 := hid (fun w => Multiply_any (enc q).num (natStr p.den) w (by rw [bn]; omega) (by omega))
  have M3 := hid (fun w => Multiply_any (natStr p.den) (natStr q.den) w (by omega) (by omega))
  simp only [an, bn, strVal_natStr] at M1 M2 M3
  simp only [← an, ← bn] at M1 M2 M3
  have HNe := hid (sumOf_ne hp hq)
  have HEq := hid (fun h => sumOf_eq hp hq h)
  have hde : p.den = q.den → (enc p).den = (enc q).den := fun h => by unfold enc; simp only [h]
  have hdn : p.den ≠ q.den → (enc p).den ≠ (enc q).den := fun h e => h (by have a1 := enc_den p; have a2 := enc_den q; unfold gDen at a1 a2; rw [e] at a1; omega)
  have HDE := hid hde
  have HDN := hid (fun h => str_ne (hdn h))
  have AN := hid an
  have BN := hid bn
  have hx0 := hid (Bx3.new w (enc p) (enc q))
  have en1 : (enc p).neg = qNeg p := rfl
  have en2 : (enc q).neg = qNeg q := rfl
  have EN1 := hid en1
  have EN2 := hid en2
  obtain ⟨k, hk⟩ : ∃ k, k = m + n := ⟨_, rfl⟩
  have hkb : k ≤ 200000000000 := by omega
  rw [← hk] at HNe
  simp only [← hk] at HEq
  obtain ⟨c, hc⟩ : ∃ c, c = enc (p + q) := ⟨_, rfl⟩
  rw [← hc]
  have HC := hid hc
  generalize enc p = a at *
  generalize enc q = b at *
  unfold vRat at DA DB
  unfold vRat
  clear hp hq an bn s1 s2 s3 s4 hde hdn hc hk en1 en2 hm hn
  go_enter Tryd.func46, Tryd.ntmps46
  go_upto_region 1 with fail
  go_cut [5, 6, 7] (fun s5 s6 s7 wx => s5 = .string a.num ∧ s6 = .string b.num ∧ s7 = .string { data := #[1] } ∧ Bx3 w wx a b)
  case first =>
    go_quiet (fail)
    go_wp2
    go_meet
    case rel => exact ⟨rfl, rfl, rfl, Bx3.drewN hx0.out _⟩
  case rest =>
  obtain ⟨rfl, rfl, rfl, hx⟩ := hcut
  obtain ⟨z0, z1, z2, z3, z4⟩ := hx.1.facts
  obtain ⟨y0, y1, y2, y3, y4⟩ := hx.2.1.facts
  go_upto_region 2 with fail
  go_cut [20] (fun s20 wx => s20 = .bool (decide (p.den ≠ q.den)) ∧ wc = wx)
  case first =>
    by_cases hd : p.den = q.den
    · have e1 : (a.den.toList == b.den.toList) = true := by rw [HDE.out hd]; simp
      go_wp2
      go_meet
      case rel => exact ⟨congrArg Value.bool (by simp [hd, e1]), rfl⟩
    · have e1 := HDN.out hd
      go_wp2
      go_meet
      case rel => exact ⟨congrArg Value.bool (by simp [hd, e1]), rfl⟩
  case rest =>
  obtain ⟨rfl, rfl⟩ := hcut
  go_upto_if 20 with fail
  go_cut [5, 6, 7] (fun s5 s6 s7 wx => ∃ X Y D, s5 = .string (natStr X) ∧ s6 = .string (natStr Y) ∧ s7 = .string (natStr D) ∧ Hid (SumOf p q k X Y D) ∧ Bx3 w wx a b)
  case first =>
    by_cases hd : p.den ≠ q.den
    rotate_left
    · have HDD := hid (Decidable.not_not.1 hd)
      go_wp2_with fail
      refine Calls.mono (DA.out _) ?_
      rintro e w1 ⟨rfl, hb1⟩
      go_wp2
      go_meet
      case rel => exact ⟨p.num.natAbs, q.num.natAbs, p.den, by rw [AN.out], by rw [BN.out], rfl, HEq.out HDD.out, hx.next hb1⟩
    · go_wp2_with fail
      go_region_held3 (fun w' => w'.cell? ⟨w.heap.size, 0, none⟩ = some (.bool a.neg) ∧ w'.cell? ⟨w.heap.size, 1, none⟩ = some (.string a.num) ∧ w'.cell? ⟨w.heap.size, 2, none⟩ = some (.string a.den) ∧ w'.cell? ⟨w.heap.size + 1, 0, none⟩ = some (.bool b.neg) ∧ w'.cell? ⟨w.heap.size + 1, 1, none⟩ = some (.string b.num) ∧ w'.cell? ⟨w.heap.size + 1, 2, none⟩ = some (.string b.den)) (go_keep)
        (first
          | (go_at_call_of 49 (Value.agg #[.bool a.neg, .string a.num, .string a.den]); refine Calls.mono (DA.out _) ?_; rintro e wn ⟨rfl, hbn⟩; (first | replace hx := Bx3.next hx hbn | replace hx := Bx3.next (Bx3.drew hx) hbn); clear z0 z1 z2 z3 z4 y0 y1 y2 y3 y4; obtain ⟨z0, z1, z2, z3, z4⟩ := hx.1.facts; obtain ⟨y0, y1, y2, y3, y4⟩ := hx.2.1.facts)
          | (go_at_call_of 49 (Value.agg #[.bool b.neg, .string b.num, .string b.den]); refine Calls.mono (DB.out _) ?_; rintro e wn ⟨rfl, hbn⟩; (first | replace hx := Bx3.next hx hbn | replace hx := Bx3.next (Bx3.drew hx) hbn); clear z0 z1 z2 z3 z4 y0 y1 y2 y3 y4; obtain ⟨z0, z1, z2, z3, z4⟩ := hx.1.facts; obtain ⟨y0, y1, y2, y3, y4⟩ := hx.2.1.facts)
          | (go_at_call_of 48 (Value.string a.num); refine Calls.mono (M1.out _) ?_; rintro e wn ⟨rfl, hbn⟩; (first | replace hx := Bx3.next hx hbn | replace hx := Bx3.next (Bx3.drew hx) hbn); clear z0 z1 z2 z3 z4 y0 y1 y2 y3 y4; obtain ⟨z0, z1, z2, z3, z4⟩ := hx.1.facts; obtain ⟨y0, y1, y2, y3, y4⟩ := hx.2.1.facts)
          | (go_at_call_of 48 (Value.string b.num); refine Calls.mono (M2.out _) ?_; rintro e wn ⟨rfl, hbn⟩; (first | replace hx := Bx3.next hx hbn | replace hx := Bx3.next (Bx3.drew hx) hbn); clear z0 z1 z2 z3 z4 y0 y1 y2 y3 y4; obtain ⟨z0, z1, z2, z3, z4⟩ := hx.1.facts; obtain ⟨y0, y1, y2, y3, y4⟩ := hx.2.1.facts))
      go_wp2_with fail
      go_region_held3 (fun w' => w'.cell? ⟨w.heap.size, 0, none⟩ = some (.bool a.neg) ∧ w'.cell? ⟨w.heap.size, 1, none⟩ = some (.string a.num) ∧ w'.cell? ⟨w.heap.size, 2, none⟩ = some (.string a.den) ∧ w'.cell? ⟨w.heap.size + 1, 0, none⟩ = some (.bool b.neg) ∧ w'.cell? ⟨w.heap.size + 1, 1, none⟩ = some (.string b.num) ∧ w'.cell? ⟨w.heap.size + 1, 2, none⟩ = some (.string b.den)) (go_keep)
        (first
          | (go_at_call_of 49 (Value.agg #[.bool a.neg, .string a.num, .string a.den]); refine Calls.mono (DA.out _) ?_; rintro e wn ⟨rfl, hbn⟩; (first | replace hx := Bx3.next hx hbn | replace hx := Bx3.next (Bx3.drew hx) hbn); clear z0 z1 z2 z3 z4 y0 y1 y2 y3 y4; obtain ⟨z0, z1, z2, z3, z4⟩ := hx.1.facts; obtain ⟨y0, y1, y2, y3, y4⟩ := hx.2.1.facts)
          | (go_at_call_of 49 (Value.agg #[.bool b.neg, .string b.num, .string b.den]); refine Calls.mono (DB.out _) ?_; rintro e wn ⟨rfl, hbn⟩; (first | replace hx := Bx3.next hx hbn | replace hx := Bx3.next (Bx3.drew hx) hbn); clear z0 z1 z2 z3 z4 y0 y1 y2 y3 y4; obtain ⟨z0, z1, z2, z3, z4⟩ := hx.1.facts; obtain ⟨y0, y1, y2, y3, y4⟩ := hx.2.1.facts)
          | (go_at_call_of 48 (Value.string (natStr p.den)); refine Calls.mono (M3.out _) ?_; rintro e wn ⟨rfl, hbn⟩; (first | replace hx := Bx3.next hx hbn | replace hx := Bx3.next (Bx3.drew hx) hbn); clear z0 z1 z2 z3 z4 y0 y1 y2 y3 y4; obtain ⟨z0, z1, z2, z3, z4⟩ := hx.1.facts; obtain ⟨y0, y1, y2, y3, y4⟩ := hx.2.1.facts))
      go_wp2
      go_meet
      case rel => exact ⟨_, _, _, rfl, rfl, rfl, HNe, hx⟩
  case rest =>
    clear z0 z1 z2 z3 z4 y0 y1 y2 y3 y4 hx
    obtain ⟨X, Y, D, rfl, rfl, rfl, HS, hx⟩ := hcut
    obtain ⟨z0, z1, z2, z3, z4⟩ := hx.1.facts
    obtain ⟨y0, y1, y2, y3, y4⟩ := hx.2.1.facts
    obtain ⟨nx, ny, nd, hD0, f1, f2, f3⟩ := HS.out
    have sx := nx.size
    have sy := ny.size
    have sd := nd.size
    by_cases hs : qNeg p = qNeg q
    · have e : (a.neg == b.neg) = true := by rw [EN1.out, EN2.out, hs]; simp
      have hE := f1 hs
      have hxy : (natStr (X + Y)).size ≤ 400000000000 := Nat.le_trans (nx.add ny).size (by omega)
      have A1 := hid (fun w => add_any (natStr X) (natStr Y) w (by omega) (by omega))
      have R1 := hid (fun w => qreduced_any (qNeg p) (natStr (X + Y)) (natStr D) w hxy (by omega) (by rw [strVal_natStr]; exact hD0))
      simp only [strVal_natStr] at A1 R1
      rw [← hE, ← HC.out, ← EN1.out] at R1
      clear hs hE f1 f2 f3 nx ny nd sx sy sd hD0 hxy HS
      go_wp2_with fail
      go_region_with (first
        | (go_at_call 72; refine Calls.mono (A1.out _) ?_; rintro e wn ⟨rfl, hbn⟩; replace hx := Bx3.next (Bx3.drew hx) hbn; clear z0 z1 z2 z3 z4 y0 y1 y2 y3 y4; obtain ⟨z0, z1, z2, z3, z4⟩ := hx.1.facts)
        | (go_at_call 52; refine Calls.mono (R1.out _) ?_; rintro e wm ⟨rfl, hbm⟩; unfold vRat; replace hx := Bx3.next hx hbm; obtain ⟨t0, t1, t2, t3, t4⟩ := hx.2.2.1.facts))
      all_goals (go_wp2; refine ret_blk3 (hx.ret c).1 (fun W' c0 c1 c2 => by simp [results, Tryd.results46, go_sem, c0, c1, c2]) rfl ⟨rfl, (hx.ret c).2⟩)
    · have e : (a.neg == b.neg) = false := by rw [EN1.out, EN2.out]; simp [hs]
      by_cases hl : X < Y
      · have hE := f2 hs hl
        have A1 := hid (fun w => Subtract_no (natStr X) (natStr Y) w (by omega) (by omega) (by rw [strVal_natStr, strVal_natStr]; exact hl))
        have A2 := hid (fun w => Subtract_ok (natStr Y) (natStr X) w (by omega) (by omega) (by rw [strVal_natStr, strVal_natStr]; omega))
        have hxy : (natStr (Y - X)).size ≤ 400000000000 := Nat.le_trans (ny.le (Nat.sub_le _ _)).size (by omega)
        have R1 := hid (fun w => qreduced_any (qNeg q) (natStr (Y - X)) (natStr D) w hxy (by omega) (by rw [strVal_natStr]; exact hD0))
        simp only [strVal_natStr] at A1 A2 R1
        rw [← hE, ← HC.out, ← EN2.out] at R1
        clear hs hE f1 f2 f3 nx ny nd sx sy sd hD0 hxy HS hl
        go_wp2_with fail
        refine Calls.mono (A1.out _) ?_
        rintro e8 w8 ⟨rfl, hb8⟩
        replace hx := Bx3.next hx hb8
        go_wp2_with fail
        refine Calls.mono (A2.out _) ?_
        rintro e9 w9 ⟨rfl, hb9⟩
        replace hx := Bx3.next hx hb9
        clear z0 z1 z2 z3 z4 y0 y1 y2 y3 y4
        obtain ⟨y0, y1, y2, y3, y4⟩ := hx.2.1.facts
        go_wp2_with fail
        refine Calls.mono (R1.out _) ?_
        rintro ea wa ⟨rfl, hba⟩
        unfold vRat
        replace hx := Bx3.next hx hba
        obtain ⟨t0, t1, t2, t3, t4⟩ := hx.2.2.1.facts
        go_wp2
        refine ret_blk3 (hx.ret c).1 (fun W' c0 c1 c2 => by simp [results, Tryd.results46, go_sem, c0, c1, c2]) rfl ⟨rfl, (hx.ret c).2⟩
      · have hE := f3 hs (Nat.le_of_not_lt hl)
        have A1 := hid (fun w => Subtract_ok (natStr X) (natStr Y) w (by omega) (by omega) (by rw [strVal_natStr, strVal_natStr]; omega))
        have hxy : (natStr (X - Y)).size ≤ 400000000000 := Nat.le_trans (nx.le (Nat.sub_le _ _)).size (by omega)
        have R1 := hid (fun w => qreduced_any (qNeg p) (natStr (X - Y)) (natStr D) w hxy (by omega) (by rw [strVal_natStr]; exact hD0))
        simp only [strVal_natStr] at A1 R1
        rw [← hE, ← HC.out, ← EN1.out] at R1
        clear hs hE f1 f2 f3 nx ny nd sx sy sd hD0 hxy HS hl
        go_wp2_with fail
        refine Calls.mono (A1.out _) ?_
        rintro e8 w8 ⟨rfl, hb8⟩
        replace hx := Bx3.next hx hb8
        clear z0 z1 z2 z3 z4 y0 y1 y2 y3 y4
        obtain ⟨z0, z1, z2, z3, z4⟩ := hx.1.facts
        go_wp2_with fail
        refine Calls.mono (R1.out _) ?_
        rintro ea wa ⟨rfl, hba⟩
        unfold vRat
        replace hx := Bx3.next hx hba
        obtain ⟨t0, t1, t2, t3, t4⟩ := hx.2.2.1.facts
        go_wp2
        refine ret_blk3 (hx.ret c).1 (fun W' c0 c1 c2 => by simp [results, Tryd.results46, go_sem, c0, c1, c2]) rfl ⟨rfl, (hx.ret c).2⟩

end Go.Proofs.YtgmedcncbpdimaaDoor
