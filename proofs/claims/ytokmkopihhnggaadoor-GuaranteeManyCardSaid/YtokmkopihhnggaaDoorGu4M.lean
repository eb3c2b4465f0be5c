/- guarantee.Refunds: walked. -/
import Derived.Test.YtokmkopihhnggaaDoorFewM
import Derived.Deep.DeepCutAuto
import Derived.Deep.RegionHeld3
import Derived.Test.YtokmkopihhnggaaDoorRw6M
set_option linter.unusedVariables false
set_option linter.unusedSimpArgs false
set_option linter.defProp false
set_option linter.unnecessarySimpa false
set_option linter.unusedSectionVars false
section
/- guarantee.Refunds: walked. -/
namespace Go.Proofs.YtokmkopihhnggaaDoor
open Go.RowKit
attribute [local go_sem ↓] Go.wp_at_zero Go.wp_at_succ
noncomputable def qL (l : List GRat) : List Rat := l.map qOf
theorem qL_get (l : List GRat) (k : Nat) (h : k < l.length) : (qL l).getD k 0 = qOf l[k] := by simp [qL, List.getD, h]
theorem qL_len (l : List GRat) : (qL l).length = l.length := by simp [qL]
theorem qpos_qB {m : Nat} {q : Rat} (h : qB m q) : qB m (qpos q) := by
  unfold qpos; split
  · exact qB_zero.mono h.pos
  exact h
theorem gS_qB {l : List Rat} {m : Nat} (h : ∀ k, qB m (l.getD k 0)) (hm : 0 < m) : ∀ k, qB (m * (k + 1) + k) (gS l k) := by
  intro k
  induction k with
  | zero => exact qB_zero.mono (by omega)
  | succ k ih =>
    rw [gS_step]
    have := ih.add (qpos_qB (h k))
    refine this.mono ?_
    have : m * (k + 1 + 1) = m * (k + 1) + m := Nat.mul_succ _ _
    omega
theorem qL_qB {l : List GRat} {m : Nat} (h : ∀ r ∈ l, sB m r) (hm : 0 < m) : ∀ k, qB m ((qL l).getD k 0) := by
  intro k
  rcases Nat.lt_or_ge k l.length with h1 | h1
  · rw [qL_get _ _ h1]; exact (h _ (List.getElem_mem h1)).qB hm
  simp only [qL, List.getD, List.getElem?_map, List.getElem?_eq_none h1, Option.map_none, Option.getD_none]
  exact qB_zero.mono hm
noncomputable def refRow (W : Rat) (l : List Rat) (n k : Nat) : List GRat := (List.range n).map fun j => if j < k then enc (gO W l (j + 1) - gO W l j) else gZ
theorem refRow_zero (W : Rat) (l : List Rat) (n : Nat) : refRow W l n 0 = List.replicate n gZ := by
  apply List.ext_getElem <;> simp [refRow]
theorem refRow_set (W : Rat) (l : List Rat) (n k : Nat) : (refRow W l n k).set k (enc (gO W l (k + 1) - gO W l k)) = refRow W l n (k + 1) := by
  apply List.ext_getElem (by simp [refRow])
  intro j h1 h2
  simp only [refRow, List.getElem_set, List.getElem_map, List.getElem_range]
  by_cases e : k = j
  · subst e; simp
  rw [if_neg e]
  by_cases hj : j < k
  · rw [if_pos hj, if_pos (by omega)]
  rw [if_neg hj, if_neg (by omega)]
theorem refRow_end (W : Rat) (l : List Rat) : refRow W l l.length l.length = (gR W l).map enc := by
  apply List.ext_getElem (by simp [refRow, gR])
  intro j h1 h2
  have : j < l.length := by simpa [refRow] using h1
  simp [refRow, gR, this]
theorem gO_qB {W : Rat} {l : List Rat} {m M : Nat} (hW : qB M W) (h : ∀ k, qB m (l.getD k 0)) (hm : 0 < m) (k : Nat) : qB (m * (k + 1) + k + M + 1) (gO W l k) := by
  unfold gO
  exact qpos_qB ((gS_qB h hm k).sub (qpos_qB hW))
def RSt (w wr : World) (W : GRat) (n : Nat) (rs : List GRat) (s o : GRat) : Prop :=
  Bx wr w.heap.size W ∧ OwnR wr (w.heap.size + 1) n rs ∧ Bx wr (w.heap.size + 1 + 1) s ∧ Bx wr (w.heap.size + 1 + 1 + 1) o ∧ Below w.heap.size w wr
section
variable {w wr : World} {W : GRat} {n : Nat} {rs : List GRat} {s o : GRat}
theorem RSt.next {w' : World} (h : RSt w wr W n rs s o) (hb : Below wr.heap.size wr w') : RSt w w' W n rs s o := ⟨h.1.below hb, h.2.1.below hb, h.2.2.1.below hb, h.2.2.2.1.below hb, h.2.2.2.2.step hb⟩
theorem RSt.drew (h : RSt w wr W n rs s o) : RSt w wr.drew W n rs s o := ⟨h.1.drew, h.2.1.drew, h.2.2.1.drew, h.2.2.2.1.drew, Below.drew h.2.2.2.2⟩
theorem RSt.alloc (h : RSt w wr W n rs s o) (b : Obj) : RSt w (wr.alloc b) W n rs s o := h.next ((Below.refl _ _).alloc (Nat.le_refl _) _)
theorem RSt.putS (h : RSt w wr W n rs s o) (a : GRat) : RSt w (put3 wr (w.heap.size + 1 + 1) a) W n rs a o :=
  ⟨h.1.other (by omega) a, h.2.1.other (by omega) a, h.2.2.1.put a, h.2.2.2.1.other (by omega) a, below_put h.2.2.2.2 (by omega) a⟩
theorem RSt.putO (h : RSt w wr W n rs s o) (a : GRat) : RSt w (put3 wr (w.heap.size + 1 + 1 + 1) a) W n rs s a :=
  ⟨h.1.other (by omega) a, h.2.1.other (by omega) a, h.2.2.1.other (by omega) a, h.2.2.2.1.put a, below_put h.2.2.2.2 (by omega) a⟩
theorem RSt.putG (h : RSt w wr W n rs s o) {g : Nat} (hg : w.heap.size + 1 + 1 + 1 < g) (a : GRat) : RSt w (put3 wr g a) W n rs s o :=
  ⟨h.1.other (by omega) a, h.2.1.other (by omega) a, h.2.2.1.other (by omega) a, h.2.2.2.1.other (by omega) a, below_put h.2.2.2.2 (by omega) a⟩
theorem RSt.lt (h : RSt w wr W n rs s o) : w.heap.size + 1 + 1 + 1 < wr.heap.size := Blk3.lt h.2.2.2.1
theorem RSt.putR (h : RSt w wr W n rs s o) {k : Nat} (hk : k < n) (a : GRat) : RSt w (((wr.setCell ⟨w.heap.size + 1, k * 3, none⟩ (.bool a.neg)).setCell ⟨w.heap.size + 1, k * 3 + 1, none⟩ (.string a.num)).setCell ⟨w.heap.size + 1, k * 3 + 2, none⟩ (.string a.den)) W n (rs.set k a) s o :=
  ⟨h.1.other' (by omega), h.2.1.put hk a, h.2.2.1.other' (by omega), h.2.2.2.1.other' (by omega), ((h.2.2.2.2.setCell (by simp) _).setCell (by simp) _).setCell (by simp) _⟩
end
set_option maxRecDepth 100000 in
set_option maxHeartbeats 4000000 in
theorem Refunds_any (W : GRat) (v : Value) (l : List GRat) (m : Nat) (w : World) (hm : m ≤ 1000) (hm0 : 0 < m) (hW : sB m W) (hl : l.length ≤ 1000) (hs : ∀ r ∈ l, sB m r) (hv : RL w v l) :
    Calls Tryd.prog 6 #[vRat W, v] w fun e w' => ∃ u, e = .returned u ∧ RL w' u ((gR (qOf W) (qL l)).map enc) ∧ Below w.heap.size w w' := by
  obtain ⟨a, cap, rfl, h1, h2⟩ := hv.open
  have hmk := fun (w : World) => make_many (P := Tryd.prog) Tryd.underlying43 Tryd.infoRat w l.length (by omega) (by omega)
  have hmk' : ∀ w : World, (Instr.makeSlice 43 (.int .i64 l.length) (.int .i64 l.length)).run Tryd.prog w = .ok (.slice (some ⟨w.heap.size, 0, none⟩) l.length l.length) (w.alloc (.cells (madeCells #[.bool false, .string { data := #[] }, .string { data := #[] }] (l.length * 3)) 28)) := hmk
  have HSB := hid hs
  have HQ := hid (qL_qB hs hm0)
  have HWQ := hid (hW.qB hm0)
  have HPW := hid (fun w => positive_any W m w hW (by omega) hm0)
  unfold vRat at HPW
  have hx0 := hid (Bx.new w W)
  clear hmk hs hW hv
  unfold vRat
  go_enter Tryd.func6, Tryd.ntmps6
  go_wp2
  clear hmk'
  go_loopw [8, 9, 10, 18] (fun _ _ _ i wr => ∃ k : Nat, k ≤ l.length ∧ i = .int .i64 k ∧ RSt w wr W l.length (refRow (qOf W) (qL l) l.length k) (enc (gS (qL l) k)) (enc (gO (qOf W) (qL l) k))) (fun _ _ _ i _ => l.length - (intOf i).toNat)
  case atStart =>
    refine ⟨0, Nat.zero_le _, rfl, ?_⟩
    rw [refRow_zero, gO_zero, show gS (qL l) 0 = 0 from rfl, ← gZ_enc]
    have e1 : (w.alloc (.cells #[.bool W.neg, .string W.num, .string W.den] 28)).heap.size = w.heap.size + 1 := by simp
    have r1 := OwnR.new (w.alloc (.cells #[.bool W.neg, .string W.num, .string W.den] 28)) l.length
    rw [e1] at r1
    generalize (Obj.cells (madeCells #[.bool false, .string { data := #[] }, .string { data := #[] }] (l.length * 3)) 28) = ob at *
    have e2 : ((w.alloc (.cells #[.bool W.neg, .string W.num, .string W.den] 28)).alloc ob).heap.size = w.heap.size + 1 + 1 := by simp
    have b1 := Bx.new ((w.alloc (.cells #[.bool W.neg, .string W.num, .string W.den] 28)).alloc ob) gZ
    rw [e2] at b1
    have e3 : (((w.alloc (.cells #[.bool W.neg, .string W.num, .string W.den] 28)).alloc ob).alloc (.cells #[.bool gZ.neg, .string gZ.num, .string gZ.den] 28)).heap.size = w.heap.size + 1 + 1 + 1 := by simp
    have b2 := Bx.new (((w.alloc (.cells #[.bool W.neg, .string W.num, .string W.den] 28)).alloc ob).alloc (.cells #[.bool gZ.neg, .string gZ.num, .string gZ.den] 28)) gZ
    rw [e3] at b2
    exact ⟨((hx0.out.alloc _).alloc _).alloc _, (r1.alloc _).alloc _, b1.alloc _, b2, ((((Below.refl _ _).alloc (Nat.le_refl _) _).alloc (by simp) _).alloc (by simp; omega) _).alloc (by simp; omega) _⟩
  case round =>
    obtain ⟨k, hk, rfl, hst⟩ := hrel
    by_cases hlt : k < l.length
    · rcases h2 with rfl | ⟨b, off, rfl, hbb, h3⟩
      · simp at hlt
      obtain ⟨g0, g1, g2, g3⟩ := h3 k hlt
      rw [← hst.2.2.2.2.cell (p := ⟨b, off + k * 3, none⟩) hbb] at g0
      rw [← hst.2.2.2.2.cell (p := ⟨b, off + k * 3 + 1, none⟩) hbb] at g1
      rw [← hst.2.2.2.2.cell (p := ⟨b, off + k * 3 + 2, none⟩) hbb] at g2
      have hkb : k ≤ 1000 := by omega
      have hmk1 : m * (k + 1) ≤ 1000 * 1001 := Nat.mul_le_mul hm (by omega)
      have hmk2 : m * (k + 1 + 1) ≤ 1000 * 1002 := Nat.mul_le_mul hm (by omega)
      have qx : qB m (qOf l[k]) := (HSB.out _ (List.getElem_mem hlt)).qB hm0
      have q1 : qB 2000000 (gS (qL l) k) := (gS_qB HQ.out hm0 k).mono (by omega)
      have q2 : qB 2000000 (gS (qL l) (k + 1)) := (gS_qB HQ.out hm0 (k + 1)).mono (by omega)
      have q3 : qB 3000000 (gO (qOf W) (qL l) k) := (gO_qB HWQ.out HQ.out hm0 k).mono (by omega)
      have q4 : qB 3000000 (gO (qOf W) (qL l) (k + 1)) := (gO_qB HWQ.out HQ.out hm0 (k + 1)).mono (by omega)
      have q5 : qB 2500000 (gS (qL l) (k + 1) - qpos (qOf W)) := (q2.sub (qpos_qB HWQ.out)).mono (by omega)
      have eS : gS (qL l) (k + 1) = gS (qL l) k + qpos (qOf l[k]) := by rw [gS_step, qL_get _ _ hlt]
      have HPX := hid (fun w => positive_any l[k] m w (HSB.out _ (List.getElem_mem hlt)) (by omega) hm0)
      have HAD := hid (fun w => qAdd_any (enc (gS (qL l) k)) (enc (qpos (qOf l[k]))) 2000000 m w (sB_enc q1) (sB_enc (qpos_qB qx)) (by decide) (by omega) (by decide) hm0)
      rw [qOf_enc, qOf_enc, ← eS] at HAD
      have HSU := hid (fun w => qSubtract_any (enc (gS (qL l) (k + 1))) (enc (qpos (qOf W))) 2000000 m w (sB_enc q2) (sB_enc (qpos_qB HWQ.out)) (by decide) (by omega) (by decide) hm0)
      rw [qOf_enc, qOf_enc] at HSU
      have HPD := hid (fun w => positive_any (enc (gS (qL l) (k + 1) - qpos (qOf W))) 2500000 w (sB_enc q5) (by decide) (by decide))
      rw [qOf_enc, show qpos (gS (qL l) (k + 1) - qpos (qOf W)) = gO (qOf W) (qL l) (k + 1) from rfl] at HPD
      have HSB2 := hid (fun w => qSubtract_any (enc (gO (qOf W) (qL l) (k + 1))) (enc (gO (qOf W) (qL l) k)) 3000000 3000000 w (sB_enc q4) (sB_enc q3) (by decide) (by decide) (by decide) (by decide))
      rw [qOf_enc, qOf_enc] at HSB2
      have HRS := hid (refRow_set (qOf W) (qL l) l.length k)
      obtain ⟨x, hx⟩ : ∃ x, x = l[k] := ⟨_, rfl⟩
      rw [← hx] at g0 g1 g2 HPX HAD
      generalize e9 : refRow (qOf W) (qL l) l.length (k + 1) = rs' at *
      have E9 := hid e9
      clear e9
      generalize refRow (qOf W) (qL l) l.length k = rs at *
      generalize enc (gO (qOf W) (qL l) (k + 1) - gO (qOf W) (qL l) k) = rk at *
      generalize e8 : enc (gO (qOf W) (qL l) (k + 1)) = ov at *
      have E8 := hid e8
      clear e8
      generalize enc (gO (qOf W) (qL l) k) = bf at *
      generalize enc (gS (qL l) (k + 1) - qpos (qOf W)) = dd at *
      generalize e7 : enc (gS (qL l) (k + 1)) = sm' at *
      have E7 := hid e7
      clear e7
      generalize enc (gS (qL l) k) = sm at *
      generalize enc (qpos (qOf x)) = px at *
      generalize enc (qpos (qOf W)) = pW at *
      have HST := hid hst
      obtain ⟨s0, s1, s2, s3, s4⟩ := hst.2.2.1.facts
      unfold vRat at HPX HAD HSU HPD HSB2
      clear hx g3 h3 hmk1 hmk2 qx q1 q2 q3 q4 q5 eS hst
      go_upto_region 6 with fail
      go_cut [] (fun wx => RSt w wx W l.length rs sm' bf)
      case first =>
        go_region_with (first
          | (go_at_call 11; refine Calls.mono (HPX.out _) ?_; rintro e w1 ⟨rfl, hb1⟩; have st1 := RSt.next (RSt.drew (RSt.alloc HST.out _)) hb1; clear s0 s1 s2 s3 s4; obtain ⟨s0, s1, s2, s3, s4⟩ := st1.2.2.1.facts)
          | (go_at_call 10; refine Calls.mono (HAD.out _) ?_; rintro e w2 ⟨rfl, hb2⟩; have st2 := st1.next hb2; clear s0 s1 s2 s3 s4; obtain ⟨s0, s1, s2, s3, s4⟩ := st2.2.2.1.facts))
        all_goals (go_wp2; go_meet; exact st2.putS sm')
      case rest =>
        have st := hcut
        have HS3 := hid st
        obtain ⟨s0, s1, s2, s3, s4⟩ := st.2.2.1.facts
        obtain ⟨z0, z1, z2, z3, z4⟩ := st.1.facts
        clear st hcut HST g0 g1 g2
        go_upto_region 7 with fail
        go_cut [10] (fun s10 wx => ∃ g : Nat, s10 = .pointer (some ⟨g, 0, none⟩) ∧ w.heap.size + 1 + 1 + 1 < g ∧ Bx wx g ov ∧ RSt w wx W l.length rs sm' bf)
        case first =>
          go_region_with (first
            | (go_at_call_of 11 (Value.agg #[.bool W.neg, .string W.num, .string W.den]); refine Calls.mono (HPW.out _) ?_; rintro e w1 ⟨rfl, hb1⟩; (first | have st1 := RSt.next (RSt.drew HS3.out) hb1 | (have st1 := RSt.next (RSt.alloc (RSt.drew HS3.out) _) hb1; have bz : Bx w1 wc.heap.size gZ := (Bx.new wc.drew gZ).below hb1; have bl := HS3.out.lt)); clear s0 s1 s2 s3 s4; obtain ⟨s0, s1, s2, s3, s4⟩ := st1.2.2.1.facts)
            | (go_at_call 12; refine Calls.mono (HSU.out _) ?_; rintro e w2 ⟨rfl, hb2⟩; (first | (have st2 := st1.next hb2; try replace bz := bz.below hb2) | (have st2 := RSt.next (RSt.alloc st1 _) hb2; have bz := (Bx.new w1 gZ).below hb2; have bl := st1.lt)))
            | (go_at_call_of 11 (Value.agg #[.bool dd.neg, .string dd.num, .string dd.den]); refine Calls.mono (HPD.out _) ?_; rintro e w3 ⟨rfl, hb3⟩; (first | (have st3 := st2.next hb3; try replace bz := bz.below hb3) | (have st3 := RSt.next (RSt.alloc st2 _) hb3; have bz := (Bx.new w2 gZ).below hb3; have bl := st2.lt)); try obtain ⟨q0, q1, q2, q3, q4⟩ := bz.facts))
          all_goals (go_wp2; go_meet; (first | exact ⟨_, rfl, st3.lt, Bx.new _ ov, st3.alloc _⟩ | exact ⟨_, rfl, bl, bz.put ov, st3.putG bl ov⟩))
        case rest =>
          clear s0 s1 s2 s3 s4 z0 z1 z2 z3 z4 HS3
          obtain ⟨g, rfl, hg, hbx, hst⟩ := hcut
          have HBX := hid hbx
          have HST := hid hst
          obtain ⟨s0, s1, s2, s3, s4⟩ := hbx.facts
          obtain ⟨z0, z1, z2, z3, z4⟩ := hst.2.2.2.1.facts
          clear hbx hst
          go_upto_region 8 with fail
          go_cut [] (fun wx => Bx wx g ov ∧ RSt w wx W l.length rs' sm' bf)
          case first =>
            go_wp2_with fail
            refine Calls.mono (HSB2.out _) ?_
            rintro e w1 ⟨rfl, hb1⟩
            have st1 := HST.out.next hb1
            have bx1 := HBX.out.below hb1
            clear s0 s1 s2 s3 s4 z0 z1 z2 z3 z4
            obtain ⟨s0, s1, s2, s3, s4⟩ := st1.2.1.facts hlt
            go_wp2
            go_meet
            refine ⟨bx1.other' (by omega), ?_⟩
            have := st1.putR hlt rk
            rw [HRS.out] at this
            exact this
          case rest =>
            clear s0 s1 s2 s3 s4 z0 z1 z2 z3 z4 HBX HST
            obtain ⟨hbx, hst⟩ := hcut
            have HST := hid hst
            obtain ⟨s0, s1, s2, s3, s4⟩ := hbx.facts
            obtain ⟨z0, z1, z2, z3, z4⟩ := hst.2.2.2.1.facts
            clear hbx hst
            go_wp2
            go_roundw
            case rel => exact ⟨k + 1, hlt, by go_num, by rw [E9.out, E8.out, E7.out]; exact HST.out.putO ov⟩
            case measure => simp [intOf]; omega
    have hk' : k = l.length := by omega
    have hR := OwnR.reads hst.2.1 (by unfold maxLen; omega)
    rw [hk'] at hR
    have e1 := refRow_end (qOf W) (qL l)
    rw [qL_len] at e1
    rw [e1] at hR
    have hsz : ∀ r ∈ (gR (qOf W) (qL l)).map enc, sB maxLen r := by
      intro r hr
      obtain ⟨q, hq, rfl⟩ := List.mem_map.1 hr
      obtain ⟨j, hj, rfl⟩ := List.mem_map.1 hq
      have hj' : j < l.length := by simpa [qL_len] using hj
      have hmk1 : m * (j + 1) ≤ 1000 * 1001 := Nat.mul_le_mul hm (by omega)
      have hmk2 : m * (j + 1 + 1) ≤ 1000 * 1002 := Nat.mul_le_mul hm (by omega)
      have a1 := gO_qB HWQ.out HQ.out hm0 (j + 1)
      have a2 := gO_qB HWQ.out HQ.out hm0 j
      exact (sB_enc (a1.sub a2)).mono (by unfold maxLen; omega)
    have HR := hid (hR hsz)
    have HB := hid hst.2.2.2.2
    clear hR e1 hsz hst hk'
    go_wp2
    go_ret
    exact ⟨_, rfl, HR.out, HB.out⟩
end Go.Proofs.YtokmkopihhnggaaDoor
end
section
/- insolvencylaw18.awake: walked. -/
namespace Go.Proofs.YtokmkopihhnggaaDoor
open Go.RowKit
attribute [local go_sem ↓] Go.wp_at_zero Go.wp_at_succ
theorem aw18_gR : gR ((100 : Int) : Rat) [((70 : Int) : Rat), ((50 : Int) : Rat), ((20 : Int) : Rat)] = [((0 : Int) : Rat), ((20 : Int) : Rat), ((20 : Int) : Rat)] := by decide +kernel
theorem RL.get {w : World} {v : Value} {l : List GRat} (h : RL w v l) {k : Nat} (hk : k < l.length) :
    ∃ b off cap, v = .slice (some ⟨b, off, none⟩) l.length cap ∧ b < w.heap.size ∧ l.length ≤ 9223372036854775807 ∧ ∀ j (h : j < l.length), w.cell? ⟨b, off + j * 3, none⟩ = some (.bool l[j].neg) ∧ w.cell? ⟨b, off + j * 3 + 1, none⟩ = some (.string l[j].num) ∧ w.cell? ⟨b, off + j * 3 + 2, none⟩ = some (.string l[j].den) ∧ sB maxLen l[j] := by
  obtain ⟨a, cap, rfl, h1, h2⟩ := h.open
  rcases h2 with h2 | ⟨b, off, rfl, hb, h3⟩
  · rw [h2] at hk; simp at hk
  exact ⟨b, off, cap, rfl, hb, h1, h3⟩
def AwS (w5 : World) (b off : Nat) (q0 q20 : GRat) (w' : World) : Prop := Below w5.heap.size w5 w' ∧ w'.cell? ⟨b, off, none⟩ = some (.bool q0.neg) ∧ w'.cell? ⟨b, off + 1, none⟩ = some (.string q0.num) ∧ w'.cell? ⟨b, off + 2, none⟩ = some (.string q0.den) ∧ w'.cell? ⟨b, off + 3, none⟩ = some (.bool q20.neg) ∧ w'.cell? ⟨b, off + 3 + 1, none⟩ = some (.string q20.num) ∧ w'.cell? ⟨b, off + 3 + 2, none⟩ = some (.string q20.den) ∧ w'.cell? ⟨b, off + 6, none⟩ = some (.bool q20.neg) ∧ w'.cell? ⟨b, off + 6 + 1, none⟩ = some (.string q20.num) ∧ w'.cell? ⟨b, off + 6 + 2, none⟩ = some (.string q20.den)
theorem AwS.drew {w5 W : World} {b off : Nat} {q0 q20 : GRat} (h : AwS w5 b off q0 q20 W) : AwS w5 b off q0 q20 W.drew := ⟨Below.drew h.1, h.2⟩
theorem AwS.next {w5 W V : World} {b off : Nat} {q0 q20 : GRat} (h : AwS w5 b off q0 q20 W) (hb : b < w5.heap.size) (hV : Below W.heap.size W V) : AwS w5 b off q0 q20 V := by
  have hc : ∀ o, V.cell? ⟨b, o, none⟩ = W.cell? ⟨b, o, none⟩ := fun o => hV.cell (p := ⟨b, o, none⟩) (Nat.lt_of_lt_of_le hb h.1.size)
  obtain ⟨h0, h⟩ := h
  refine ⟨h0.step hV, ?_⟩
  simp only [hc]
  exact h
set_option maxRecDepth 100000 in
set_option maxHeartbeats 2000000 in
theorem awake18_any (w : World) : Calls Tryd.prog 4 #[] w fun e w' => e = .returned (.bool true) ∧ Below w.heap.size w w' := by
  have I1 := hid (fun w => qInt_any 100 w (by decide) (by decide))
  have I2 := hid (fun w => qInt_any 70 w (by decide) (by decide))
  have I3 := hid (fun w => qInt_any 50 w (by decide) (by decide))
  have I4 := hid (fun w => qInt_any 20 w (by decide) (by decide))
  have I5 := hid (fun w => qInt_any 0 w (by decide) (by decide))
  have b100 : sB 1 (enc ((100 : Int) : Rat)) := sB_enc ⟨by decide, by decide⟩
  have b70 : sB 1 (enc ((70 : Int) : Rat)) := sB_enc ⟨by decide, by decide⟩
  have b50 : sB 1 (enc ((50 : Int) : Rat)) := sB_enc ⟨by decide, by decide⟩
  have b20 : sB 1 (enc ((20 : Int) : Rat)) := sB_enc ⟨by decide, by decide⟩
  have R := hid (fun (v : Value) (w : World) (h : RL w v [enc ((70 : Int) : Rat), enc ((50 : Int) : Rat), enc ((20 : Int) : Rat)]) => Refunds_any (enc ((100 : Int) : Rat)) v _ 1 w (by decide) (by decide) b100 (by decide) (by intro r hr; simp at hr; rcases hr with rfl | rfl | rfl; exact b70; exact b50; exact b20) h)
  have e1 : (gR (qOf (enc ((100 : Int) : Rat))) (qL [enc ((70 : Int) : Rat), enc ((50 : Int) : Rat), enc ((20 : Int) : Rat)])).map enc = [enc ((0 : Int) : Rat), enc ((20 : Int) : Rat), enc ((20 : Int) : Rat)] := by
    simp only [qL, List.map_cons, List.map_nil, qOf_enc]
    rw [aw18_gR]
    rfl
  rw [e1] at R
  have hsz := hid (show sB maxLen (enc ((70 : Int) : Rat)) ∧ sB maxLen (enc ((50 : Int) : Rat)) ∧ sB maxLen (enc ((20 : Int) : Rat)) from ⟨sB_max b70 (by decide), sB_max b50 (by decide), sB_max b20 (by decide)⟩)
  generalize enc ((100 : Int) : Rat) = q100 at *
  generalize enc ((70 : Int) : Rat) = q70 at *
  generalize enc ((50 : Int) : Rat) = q50 at *
  generalize enc ((20 : Int) : Rat) = q20 at *
  generalize enc ((0 : Int) : Rat) = q0 at *
  clear e1 b100 b70 b50 b20
  unfold vRat at I1 I2 I3 I4 I5 R
  go_enter Tryd.func4, Tryd.ntmps4
  go_wp2_with fail
  refine Calls.mono (I1.out _) ?_
  rintro e w1 ⟨rfl, hb1⟩
  go_wp2_with fail
  refine Calls.mono (I2.out _) ?_
  rintro e w2 ⟨rfl, hb2⟩
  go_wp2_with fail
  refine Calls.mono (I3.out _) ?_
  rintro e w3 ⟨rfl, hb3⟩
  go_wp2_with fail
  refine Calls.mono (I4.out _) ?_
  rintro e w4 ⟨rfl, hb4⟩
  have hb := hid (hb1.step (hb2.step (hb3.step hb4)))
  clear hb1 hb2 hb3 hb4
  have hRL : RL (w4.alloc (.cells #[.bool q70.neg, .string q70.num, .string q70.den, .bool q50.neg, .string q50.num, .string q50.den, .bool q20.neg, .string q20.num, .string q20.den] 28)) (.slice (some ⟨w4.heap.size, 0, none⟩) 3 3) [q70, q50, q20] := by
    refine OwnR.reads (n := 3) ⟨rfl, ?_⟩ (by decide) ?_
    · unfold Own
      rw [heap_alloc_new]
      congr 2
      apply Array.ext'
      simp [List.range_succ, cellF, List.getD]
    intro r hr
    simp at hr
    rcases hr with rfl | rfl | rfl
    · exact hsz.out.1
    · exact hsz.out.2.1
    exact hsz.out.2.2
  have R1 := hid (R.out _ _ hRL)
  clear hRL
  go_wp2_with fail
  refine Calls.mono R1.out ?_
  rintro e w5 ⟨u, rfl, hu, hb5⟩
  obtain ⟨b, off, cap, rfl, hbb, -, h3⟩ := hu.get (k := 0) (by simp)
  have f0 := h3 0 (by simp)
  have f1 := h3 1 (by simp)
  have f2 := h3 2 (by simp)
  simp only [List.getElem_cons_zero, List.getElem_cons_succ, Nat.zero_mul, Nat.one_mul, Nat.add_zero, Nat.reduceMul] at f0 f1 f2
  have hbw := hid (Below.step (hb.out.alloc hb.out.size _) hb5)
  obtain ⟨a0, a1, a2, -⟩ := f0
  obtain ⟨a3, a4, a5, -⟩ := f1
  obtain ⟨a6, a7, a8, -⟩ := f2
  clear hu h3 hb5 hb R1 R
  have hS : AwS w5 b off q0 q20 w5 := ⟨Below.refl _ _, a0, a1, a2, a3, a4, a5, a6, a7, a8⟩
  have HS := hid (fun (W V : World) (h : AwS w5 b off q0 q20 W) (hb : Below W.heap.size W V) => h.next hbb hb)
  go_wp2_with fail
  go_region_held3 (fun w' => w'.cell? ⟨b, off, none⟩ = some (.bool q0.neg) ∧ w'.cell? ⟨b, off + 1, none⟩ = some (.string q0.num) ∧ w'.cell? ⟨b, off + 2, none⟩ = some (.string q0.den) ∧ w'.cell? ⟨b, off + 3, none⟩ = some (.bool q20.neg) ∧ w'.cell? ⟨b, off + 3 + 1, none⟩ = some (.string q20.num) ∧ w'.cell? ⟨b, off + 3 + 2, none⟩ = some (.string q20.den) ∧ w'.cell? ⟨b, off + 6, none⟩ = some (.bool q20.neg) ∧ w'.cell? ⟨b, off + 6 + 1, none⟩ = some (.string q20.num) ∧ w'.cell? ⟨b, off + 6 + 2, none⟩ = some (.string q20.den)) (go_keep)
    (first
      | (go_at_call_of 7 (Value.int .i64 0); refine Calls.mono (I5.out _) ?_; rintro e wn ⟨rfl, hbn⟩; (first | replace hS := HS.out _ _ hS hbn | replace hS := HS.out _ _ hS.drew hbn); clear a0 a1 a2 a3 a4 a5 a6 a7 a8; obtain ⟨-, a0, a1, a2, a3, a4, a5, a6, a7, a8⟩ := id hS)
      | (go_at_call_of 7 (Value.int .i64 20); refine Calls.mono (I4.out _) ?_; rintro e wn ⟨rfl, hbn⟩; (first | replace hS := HS.out _ _ hS hbn | replace hS := HS.out _ _ hS.drew hbn); clear a0 a1 a2 a3 a4 a5 a6 a7 a8; obtain ⟨-, a0, a1, a2, a3, a4, a5, a6, a7, a8⟩ := id hS))
  go_wp2
  go_ret
  exact ⟨rfl, Below.step hbw.out hS.1⟩
end Go.Proofs.YtokmkopihhnggaaDoor
end
section
/- GuaranteeCheck: the law's own function; walked by the abstract machine. -/
namespace Go.Proofs.YtokmkopihhnggaaDoor
open Go Go.RowKit
theorem acall_law {P : Program} {f : FuncId} {args : List A1} {vs : List Value} {w : World} (h : ACall P f args (one (.bool true))) (hd : den1s (kAll w) vs args) :
    Calls P f vs.toArray w fun e w' => e = .returned (.bool true) ∧ Below w.heap.size w w' :=
  (h.2 w (LT w.heap.size) vs (fun _ h => h) hd).mono fun e w' ⟨v, he, hb, hv⟩ => by
    have : v = .bool true := hv.1
    subst this
    exact ⟨he, hb⟩
theorem den_oneC {α : Type} {enc : α → List C} {ok : α → Prop} {W : World} {v : Value} {a : α} {c : C} (o : rC enc ok W (LT W.heap.size) [v] a) (he : enc a = [c]) : den1 (kAll W) v (.one c) ∧ ok a := by
  obtain ⟨h, k⟩ := o
  rw [he] at h
  exact ⟨h.1, k⟩
theorem awake18_A : ACall Tryd.prog 4 [] (one (.bool true)) :=
  acall_flat (fnOK_of Tryd.func4 (by decide) rfl) [] (.bool true) awake18_any
end Go.Proofs.YtokmkopihhnggaaDoor
end
section
/- The builder's helpers: free, taken; walked by the abstract machine. -/
namespace Go.Proofs.YtokmkopihhnggaaDoor
open Go Go.RowKit
end Go.Proofs.YtokmkopihhnggaaDoor
end
