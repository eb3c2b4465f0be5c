/- guarantee.Refunds: walked. -/
import Derived.Test.YtgmedcncbpdimaaDoorGu2M
import Derived.Deep.DeepCutAuto
set_option linter.unusedVariables false
set_option linter.unusedSimpArgs false
set_option linter.unusedSectionVars false
/- guarantee.Refunds: walked. -/
namespace Go.Proofs.YtgmedcncbpdimaaDoor
open Go.RowKit
attribute [local go_sem ↓] Go.wp_at_zero Go.wp_at_succ

/-- What a list of forms means. -/
noncomputable def qL (l : List GRat) : List Rat := l.map qOf
theorem qL_get (l : List GRat) (k : Nat) (h : k < l.length) : (qL l).getD k 0 = qOf l[k] := by simp [qL, List.getD, h]
theorem qL_len (l : List GRat) : (qL l).length = l.length := by simp [qL]

theorem qpos_qB {m : Nat} {q : Rat} (h : qB m q) : qB m (qpos q) := by
  unfold qpos; split
  · exact qB_zero.mono h.pos
  · exact h
theorem gS_qB {l : List Rat} {m : Nat} (h : ∀ k, qB m (l.getD k 0)) (hm : 0 < m) : ∀ k, qB (m * (k + 1) + k) (gS l k) := by
  intro k
  induction k with
  | zero => exact qB_zero.mono (by omega)
  | succ k ih =>
    rw [gS_step]
    have := ih.add (qpos_qB (h k))
    refine this.mono ?_
    have : m * (k + 1 + 1) = m * (k + 1) + m := Nat.mul_succ _ _
    omega
theorem qL_qB {l : List GRat} {m : Nat} (h : ∀ r ∈ l, sB m r) (hm : 0 < m) : ∀ k, qB m ((qL l).getD k 0) := by
  intro k
  rcases Nat.lt_or_ge k l.length with h1 | h1
  · rw [qL_get _ _ h1]; exact (h _ (List.getElem_mem h1)).qB hm
  · simp only [qL, List.getD, List.getElem?_map, List.getElem?_eq_none h1, Option.map_none, Option.getD_none]
    exact qB_zero.mono hm

/-- The refunds so far, and zeros. -/
noncomputable def refRow (W : Rat) (l : List Rat) (n k : Nat) : List GRat := (List.range n).map fun j => if j < k then enc (gO W l (j + 1) - gO W l j) else gZ
theorem refRow_len (W : Rat) (l : List Rat) (n k : Nat) : (refRow W l n k).length = n := by simp [refRow]
theorem refRow_zero (W : Rat) (l : List Rat) (n : Nat) : refRow W l n 0 = List.replicate n gZ := by
  apply List.ext_getElem <;> simp [refRow]
theorem refRow_set (W : Rat) (l : List Rat) (n k : Nat) : (refRow W l n k).set k (enc (gO W l (k + 1) - gO W l k)) = refRow W l n (k + 1) := by
  apply List.ext_getElem (by simp [refRow])
  intro j h1 h2
  simp only [refRow, List.getElem_set, List.getElem_map, List.getElem_range]
  by_cases e : k = j
  · subst e; simp
  · rw [if_neg e]
    by_cases hj : j < k
    · rw [if_pos hj, if_pos (by omega)]
    · rw [if_neg hj, if_neg (by omega)]
theorem refRow_end (W : Rat) (l : List Rat) : refRow W l l.length l.length = (gR W l).map enc := by
  apply List.ext_getElem (by simp [refRow, gR])
  intro j h1 h2
  have : j < l.length := by simpa [refRow] using h1
  simp [refRow, gR, this]

theorem gO_qB {W : Rat} {l : List Rat} {m M : Nat} (hW : qB M W) (h : ∀ k, qB m (l.getD k 0)) (hm : 0 < m) (k : Nat) : qB (m * (k + 1) + k + M + 1) (gO W l k) := by
  unfold gO
  exact qpos_qB ((gS_qB h hm k).sub (qpos_qB hW))

/-- The state of the loop over what is delivered. -/
def RSt (w wr : World) (W : GRat) (n : Nat) (rs : List GRat) (s o : GRat) : Prop :=
  Bx wr w.heap.size W ∧ OwnR wr (w.heap.size + 1) n rs ∧ Bx wr (w.heap.size + 1 + 1) s ∧ Bx wr (w.heap.size + 1 + 1 + 1) o ∧ Below w.heap.size w wr
section
variable {w wr : World} {W : GRat} {n : Nat} {rs : List GRat} {s o : GRat}
theorem RSt.next {w' : World} (h : RSt w wr W n rs s o) (hb : Below wr.heap.size wr w') : RSt w w' W n rs s o := ⟨h.1.below hb, h.2.1.below hb, h.2.2.1.below hb, h.2.2.2.1.below hb, h.2.2.2.2.step hb⟩
theorem RSt.drew (h : RSt w wr W n rs s o) : RSt w wr.drew W n rs s o := ⟨h.1.drew, h.2.1.drew, h.2.2.1.drew, h.2.2.2.1.drew, Below.drew h.2.2.2.2⟩
theorem RSt.alloc (h : RSt w wr W n rs s o) (b : Obj) : RSt w (wr.alloc b) W n rs s o := h.next ((Below.refl _ _).alloc (Nat.le_refl _) _)
theorem RSt.putS (h : RSt w wr W n rs s o) (a : GRat) : RSt w (put3 wr (w.heap.size + 1 + 1) a) W n rs a o :=
  ⟨h.1.other (by omega) a, h.2.1.other (by omega) a, h.2.2.1.put a, h.2.2.2.1.other (by omega) a, below_put h.2.2.2.2 (by omega) a⟩
theorem RSt.putO (h : RSt w wr W n rs s o) (a : GRat) : RSt w (put3 wr (w.heap.size + 1 + 1 + 1) a) W n rs s a :=
  ⟨h.1.other (by omega) a, h.2.1.other (by omega) a, h.2.2.1.other (by omega) a, h.2.2.2.1.put a, below_put h.2.2.2.2 (by omega) a⟩
theorem RSt.putG (h : RSt w wr W n rs s o) {g : Nat} (hg : w.heap.size + 1 + 1 + 1 < g) (a : GRat) : RSt w (put3 wr g a) W n rs s o :=
  ⟨h.1.other (by omega) a, h.2.1.other (by omega) a, h.2.2.1.other (by omega) a, h.2.2.2.1.other (by omega) a, below_put h.2.2.2.2 (by omega) a⟩
theorem RSt.lt (h : RSt w wr W n rs s o) : w.heap.size + 1 + 1 + 1 < wr.heap.size := Blk3.lt h.2.2.2.1
theorem RSt.putR (h : RSt w wr W n rs s o) {k : Nat} (hk : k < n) (a : GRat) : RSt w (((wr.setCell ⟨w.heap.size + 1, k * 3, none⟩ (.bool a.neg)).setCell ⟨w.heap.size + 1, k * 3 + 1, none⟩ (.string a.num)).setCell ⟨w.heap.size + 1, k * 3 + 2, none⟩ (.string a.den)) W n (rs.set k a) s o :=
  ⟨h.1.other' (by omega), h.2.1.put hk a, h.2.2.1.other' (by omega), h.2.2.2.1.other' (by omega), ((h.2.2.2.2.setCell (by simp) _).setCell (by simp) _).setCell (by simp) _⟩
end

set_option maxRecDepth 100000 in
set_option maxHeartbeats 4000000 in
theorem Refunds_any (W : GRat) (v : Value) (l : List GRat) (m : Nat) (w : World) (hm : m ≤ 1000) (hm0 : 0 < m) (hW : sB m W) (hl : l.length ≤ 1000) (hs : ∀ r ∈ l, sB m r) (hv : RL w v l) :
    Calls Tryd.prog 12 #[vRat W, v] w fun e w' => ∃ u, e = .returned u ∧ RL w' u ((gR (qOf W) (qL l)).map enc) ∧ Below w.heap.size w w' := by
  obtain ⟨a, cap, rfl, h1, h2⟩ := hv.open
  have hmk := fun (w : World) => make_many (P := Tryd.prog) Tryd.underlying27 Tryd.infoRat w l.length (by omega) (by omega)
  have hmk' : ∀ w : World, (Instr.makeSlice 27 (.int .i64 l.length) (.int .i64 l.length)).run Tryd.prog w = .ok (.slice (some ⟨w.heap.size, 0, none⟩) l.length l.length) (w.alloc (.cells (madeCells #[.bool false, .string { data := #[] }, .string { data := #[] }] (l.length * 3)) 25)) := hmk
  have HSB := hid hs
  have HQ := hid (qL_qB hs hm0)
  have HWQ := hid (hW.qB hm0)
  have HPW := hid (fun w => positive_any W m w hW (by omega) hm0)
  unfold vRat at HPW
  have hx0 := hid (Bx.new w W)
  clear hmk hs hW hv
  unfold vRat
  go_enter Tryd.func12, Tryd.ntmps12
  go_wp2
  clear hmk'
  go_loopw [8, 9, 10, 18] (fun _ _ _ i wr => ∃ k : Nat, k ≤ l.length ∧ i = .int .i64 k ∧ RSt w wr W l.length (refRow (qOf W) (qL l) l.length k) (enc (gS (qL l) k)) (enc (gO (qOf W) (qL l) k))) (fun _ _ _ i _ => l.length - (intOf i).toNat)
  case atStart =>
    refine ⟨0, Nat.zero_le _, rfl, ?_⟩
    rw [refRow_zero, gO_zero, show gS (qL l) 0 = 0 from rfl, ← gZ_enc]
    have e1 : (w.alloc (.cells #[.bool W.neg, .string W.num, .string W.den] 25)).heap.size = w.heap.size + 1 := by simp
    have r1 := OwnR.new (w.alloc (.cells #[.bool W.neg, .string W.num, .string W.den] 25)) l.length
    rw [e1] at r1
    generalize (Obj.cells (madeCells #[.bool false, .string { data := #[] }, .string { data := #[] }] (l.length * 3)) 25) = ob at *
    have e2 : ((w.alloc (.cells #[.bool W.neg, .string W.num, .string W.den] 25)).alloc ob).heap.size = w.heap.size + 1 + 1 := by simp
    have b1 := Bx.new ((w.alloc (.cells #[.bool W.neg, .string W.num, .string W.den] 25)).alloc ob) gZ
    rw [e2] at b1
    have e3 : (((w.alloc (.cells #[.bool W.neg, .string W.num, .string W.den] 25)).alloc ob).alloc (.cells #[.bool gZ.neg, .string gZ.num, .string gZ.den] 25)).heap.size = w.heap.size + 1 + 1 + 1 := by simp
    have b2 := Bx.new (((w.alloc (.cells #[.bool W.neg, .string W.num, .string W.den] 25)).alloc ob).alloc (.cells #[.bool gZ.neg, .string gZ.num, .string gZ.den] 25)) gZ
    rw [e3] at b2
    exact ⟨((hx0.out.alloc _).alloc _).alloc _, (r1.alloc _).alloc _, b1.alloc _, b2, ((((Below.refl _ _).alloc (Nat.le_refl _) _).alloc (by simp) _).alloc (by simp; omega) _).alloc (by simp; omega) _⟩
  case round =>
    obtain ⟨k, hk, rfl, hst⟩ := hrel
    by_cases hlt : k < l.length
    · rcases h2 with rfl | ⟨b, off, rfl, hbb, h3⟩
      · simp at hlt
      obtain ⟨g0, g1, g2, g3⟩ := h3 k hlt
      rw [← hst.2.2.2.2.cell (p := ⟨b, off + k * 3, none⟩) hbb] at g0
      rw [← hst.2.2.2.2.cell (p := ⟨b, off + k * 3 + 1, none⟩) hbb] at g1
      rw [← hst.2.2.2.2.cell (p := ⟨b, off + k * 3 + 2, none⟩) hbb] at g2
      have hkb : k ≤ 1000 := by omega
      have hmk1 : m * (k + 1) ≤ 1000 * 1001 := Nat.mul_le_mul hm (by omega)
      have hmk2 : m * (k + 1 + 1) ≤ 1000 * 1002 := Nat.mul_le_mul hm (by omega)
      have qx : qB m (qOf l[k]) := (HSB.out _ (List.getElem_mem hlt)).qB hm0
      have q1 : qB 2000000 (gS (qL l) k) := (gS_qB HQ.out hm0 k).mono (by omega)
      have q2 : qB 2000000 (gS (qL l) (k + 1)) := (gS_qB HQ.out hm0 (k + 1)).mono (by omega)
      have q3 : qB 3000000 (gO (qOf W) (qL l) k) := (gO_qB HWQ.out HQ.out hm0 k).mono (by omega)
      have q4 : qB 3000000 (gO (qOf W) (qL l) (k + 1)) := (gO_qB HWQ.out HQ.out hm0 (k + 1)).mono (by omega)
      have q5 : qB 2500000 (gS (qL l) (k + 1) - qpos (qOf W)) := (q2.sub (qpos_qB HWQ.out)).mono (by omega)
      have eS : gS (qL l) (k + 1) = gS (qL l) k + qpos (qOf l[k]) := by rw [gS_step, qL_get _ _ hlt]
      have HPX := hid (fun w => positive_any l[k] m w (HSB.out _ (List.getElem_mem hlt)) (by omega) hm0)
      have HAD := hid (fun w => qAdd_any (enc (gS (qL l) k)) (enc (qpos (qOf l[k]))) 2000000 m w (sB_enc q1) (sB_enc (qpos_qB qx)) (by decide) (by omega) (by decide) hm0)
      rw [qOf_enc, qOf_enc, ← eS] at HAD
      have HSU := hid (fun w => qSubtract_any (enc (gS (qL l) (k + 1))) (enc (qpos (qOf W))) 2000000 m w (sB_enc q2) (sB_enc (qpos_qB HWQ.out)) (by decide) (by omega) (by decide) hm0)
      rw [qOf_enc, qOf_enc] at HSU
      have HPD := hid (fun w => positive_any (enc (gS (qL l) (k + 1) - qpos (qOf W))) 2500000 w (sB_enc q5) (by decide) (by decide))
      rw [qOf_enc, show qpos (gS (qL l) (k + 1) - qpos (qOf W)) = gO (qOf W) (qL l) (k + 1) from rfl] at HPD
      have HSB2 := hid (fun w => qSubtract_any (enc (gO (qOf W) (qL l) (k + 1))) (enc (gO (qOf W) (qL l) k)) 3000000 3000000 w (sB_enc q4) (sB_enc q3) (by decide) (by decide) (by decide) (by decide))
      rw [qOf_enc, qOf_enc] at HSB2
      have HRS := hid (refRow_set (qOf W) (qL l) l.length k)
      obtain ⟨x, hx⟩ : ∃ x, x = l[k] := ⟨_, rfl⟩
      rw [← hx] at g0 g1 g2 HPX HAD
      generalize e9 : refRow (qOf W) (qL l) l.length (k + 1) = rs' at *
      have E9 := hid e9
      clear e9
      generalize refRow (qOf W) (qL l) l.length k = rs at *
      generalize enc (gO (qOf W) (qL l) (k + 1) - gO (qOf W) (qL l) k) = rk at *
      generalize e8 : enc (gO (qOf W) (qL l) (k + 1)) = ov at *
      have E8 := hid e8
      clear e8
      generalize enc (gO (qOf W) (qL l) k) = bf at *
      generalize enc (gS (qL l) (k + 1) - qpos (qOf W)) = dd at *
      generalize e7 : enc (gS (qL l) (k + 1)) = sm' at *
      have E7 := hid e7
      clear e7
      generalize enc (gS (qL l) k) = sm at *
      generalize enc (qpos (qOf x)) = px at *
      generalize enc (qpos (qOf W)) = pW at *
      have HST := hid hst
      obtain ⟨s0, s1, s2, s3, s4⟩ := hst.2.2.1.facts
      unfold vRat at HPX HAD HSU HPD HSB2
      clear hx g3 h3 hmk1 hmk2 qx q1 q2 q3 q4 q5 eS hst
      go_upto_region 6 with fail
      go_cut [] (fun wx => RSt w wx W l.length rs sm' bf)
      case first =>
        go_region_with (first
          | (go_at_call 35; refine Calls.mono (HPX.out _) ?_; rintro e w1 ⟨rfl, hb1⟩; have st1 := RSt.next (RSt.drew (RSt.alloc HST.out _)) hb1; clear s0 s1 s2 s3 s4; obtain ⟨s0, s1, s2, s3, s4⟩ := st1.2.2.1.facts)
          | (go_at_call 21; refine Calls.mono (HAD.out _) ?_; rintro e w2 ⟨rfl, hb2⟩; have st2 := st1.next hb2; clear s0 s1 s2 s3 s4; obtain ⟨s0, s1, s2, s3, s4⟩ := st2.2.2.1.facts))
        all_goals (go_wp2; go_meet; exact st2.putS sm')
      case rest =>
        have st := hcut
        have HS3 := hid st
        obtain ⟨s0, s1, s2, s3, s4⟩ := st.2.2.1.facts
        obtain ⟨z0, z1, z2, z3, z4⟩ := st.1.facts
        clear st hcut HST g0 g1 g2
        go_upto_region 7 with fail
        go_cut [10] (fun s10 wx => ∃ g : Nat, s10 = .pointer (some ⟨g, 0, none⟩) ∧ w.heap.size + 1 + 1 + 1 < g ∧ Bx wx g ov ∧ RSt w wx W l.length rs sm' bf)
        case first =>
          go_region_with (first
            | (go_at_call_of 35 (Value.agg #[.bool W.neg, .string W.num, .string W.den]); refine Calls.mono (HPW.out _) ?_; rintro e w1 ⟨rfl, hb1⟩; (first | have st1 := RSt.next (RSt.drew HS3.out) hb1 | (have st1 := RSt.next (RSt.alloc (RSt.drew HS3.out) _) hb1; have bz : Bx w1 wc.heap.size gZ := (Bx.new wc.drew gZ).below hb1; have bl := HS3.out.lt)); clear s0 s1 s2 s3 s4; obtain ⟨s0, s1, s2, s3, s4⟩ := st1.2.2.1.facts)
            | (go_at_call 36; refine Calls.mono (HSU.out _) ?_; rintro e w2 ⟨rfl, hb2⟩; (first | (have st2 := st1.next hb2; try replace bz := bz.below hb2) | (have st2 := RSt.next (RSt.alloc st1 _) hb2; have bz := (Bx.new w1 gZ).below hb2; have bl := st1.lt)))
            | (go_at_call_of 35 (Value.agg #[.bool dd.neg, .string dd.num, .string dd.den]); refine Calls.mono (HPD.out _) ?_; rintro e w3 ⟨rfl, hb3⟩; (first | (have st3 := st2.next hb3; try replace bz := bz.below hb3) | (have st3 := RSt.next (RSt.alloc st2 _) hb3; have bz := (Bx.new w2 gZ).below hb3; have bl := st2.lt)); try obtain ⟨q0, q1, q2, q3, q4⟩ := bz.facts))
          all_goals (go_wp2; go_meet; (first | exact ⟨_, rfl, st3.lt, Bx.new _ ov, st3.alloc _⟩ | exact ⟨_, rfl, bl, bz.put ov, st3.putG bl ov⟩))
        case rest =>
          clear s0 s1 s2 s3 s4 z0 z1 z2 z3 z4 HS3
          obtain ⟨g, rfl, hg, hbx, hst⟩ := hcut
          have HBX := hid hbx
          have HST := hid hst
          obtain ⟨s0, s1, s2, s3, s4⟩ := hbx.facts
          obtain ⟨z0, z1, z2, z3, z4⟩ := hst.2.2.2.1.facts
          clear hbx hst
          go_upto_region 8 with fail
          go_cut [] (fun wx => Bx wx g ov ∧ RSt w wx W l.length rs' sm' bf)
          case first =>
            go_wp2_with fail
            refine Calls.mono (HSB2.out _) ?_
            rintro e w1 ⟨rfl, hb1⟩
            have st1 := HST.out.next hb1
            have bx1 := HBX.out.below hb1
            clear s0 s1 s2 s3 s4 z0 z1 z2 z3 z4
            obtain ⟨s0, s1, s2, s3, s4⟩ := st1.2.1.facts hlt
            go_wp2
            go_meet
            refine ⟨bx1.other' (by omega), ?_⟩
            have := st1.putR hlt rk
            rw [HRS.out] at this
            exact this
          case rest =>
            clear s0 s1 s2 s3 s4 z0 z1 z2 z3 z4 HBX HST
            obtain ⟨hbx, hst⟩ := hcut
            have HST := hid hst
            obtain ⟨s0, s1, s2, s3, s4⟩ := hbx.facts
            obtain ⟨z0, z1, z2, z3, z4⟩ := hst.2.2.2.1.facts
            clear hbx hst
            go_wp2
            go_roundw
            case rel => exact ⟨k + 1, hlt, by go_num, by rw [E9.out, E8.out, E7.out]; exact HST.out.putO ov⟩
            case measure => simp [intOf]; omega
    · have hk' : k = l.length := by omega
      have hR := OwnR.reads hst.2.1 (by unfold maxLen; omega)
      rw [hk'] at hR
      have e1 := refRow_end (qOf W) (qL l)
      rw [qL_len] at e1
      rw [e1] at hR
      have hsz : ∀ r ∈ (gR (qOf W) (qL l)).map enc, sB maxLen r := by
        intro r hr
        obtain ⟨q, hq, rfl⟩ := List.mem_map.1 hr
        obtain ⟨j, hj, rfl⟩ := List.mem_map.1 hq
        have hj' : j < l.length := by simpa [qL_len] using hj
        have hmk1 : m * (j + 1) ≤ 1000 * 1001 := Nat.mul_le_mul hm (by omega)
        have hmk2 : m * (j + 1 + 1) ≤ 1000 * 1002 := Nat.mul_le_mul hm (by omega)
        have a1 := gO_qB HWQ.out HQ.out hm0 (j + 1)
        have a2 := gO_qB HWQ.out HQ.out hm0 j
        exact (sB_enc (a1.sub a2)).mono (by unfold maxLen; omega)
      have HR := hid (hR hsz)
      have HB := hid hst.2.2.2.2
      clear hR e1 hsz hst hk'
      go_wp2
      go_ret
      exact ⟨_, rfl, HR.out, HB.out⟩

end Go.Proofs.YtgmedcncbpdimaaDoor
