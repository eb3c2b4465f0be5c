/- guarantee.Rates: walked. -/
import Derived.Test.YtgmedcncbpdimaaDoorLast0M
import Derived.Test.YtgmedcncbpdimaaDoorGu5M
import Derived.Test.YtgmedcncbpdimaaDoorDrawM
import Derived.StillTail
import Derived.Deep.DeepCutAuto
set_option linter.unusedVariables false
set_option linter.unusedSimpArgs false
set_option linter.unusedSectionVars false
section
/- guarantee.Rates: walked. -/
namespace Go.Proofs.YtgmedcncbpdimaaDoor
open Go.RowKit
attribute [local go_sem ↓] Go.wp_at_zero Go.wp_at_succ

theorem gV_qB {W : Rat} {l s : List Rat} {m : Nat} (h : ∀ k, qB m (s.getD k 0)) (hm : 0 < m) (k : Nat) : qB (m * (k + 1) + k) (gV W l s k) := by
  cases k with
  | zero => exact qB_zero.mono (by omega)
  | succ k =>
    simp only [gV]
    split
    · exact qB_zero.mono (by omega)
    · exact gS_qB h hm (k + 1)
theorem qCmp_lt {a b : Rat} (h : a < b) : decide ((0 : Int) ≤ qCmp a b) = false := by unfold qCmp; grind
theorem qCmp_ge {a b : Rat} (h : ¬ a < b) : decide ((0 : Int) ≤ qCmp a b) = true := by unfold qCmp; grind
theorem gS_over (s : List Rat) {k : Nat} (h : s.length ≤ k) : gS s (k + 1) = gS s k := by
  rw [gS_step]
  have : s.getD k 0 = 0 := by simp [List.getD, List.getElem?_eq_none h]
  rw [this, qpos_zero, Rat.add_zero]
theorem ratesRow (W : Rat) (l s : List Rat) : genRow (fun j => gV W l s (j + 1) - gV W l s j) l.length l.length = (gQ W l s).map enc := genRow_end _ _

/-- The loop's state. -/
def QSt (w wr : World) (W : GRat) (n : Nat) (rs : List GRat) (s t o : GRat) : Prop :=
  BS w wr [(w.heap.size + 1 + 1 + 1 + 1, o), (w.heap.size + 1 + 1 + 1, t), (w.heap.size + 1 + 1, s), (w.heap.size, W)] ∧ OwnR wr (w.heap.size + 1) n rs
section
variable {w wr : World} {W : GRat} {n : Nat} {rs : List GRat} {s t o : GRat}
theorem QSt.next {w' : World} (h : QSt w wr W n rs s t o) (hb : Below wr.heap.size wr w') : QSt w w' W n rs s t o := ⟨h.1.next hb, h.2.below hb⟩
theorem QSt.drew (h : QSt w wr W n rs s t o) : QSt w wr.drew W n rs s t o := ⟨h.1.drew, h.2.drew⟩
theorem QSt.alloc (h : QSt w wr W n rs s t o) (b : Obj) : QSt w (wr.alloc b) W n rs s t o := h.next ((Below.refl _ _).alloc (Nat.le_refl _) _)
theorem QSt.putS (h : QSt w wr W n rs s t o) (a : GRat) : QSt w (put3 wr (w.heap.size + 1 + 1) a) W n rs a t o := ⟨h.1.put 2 rfl a, h.2.other (by omega) a⟩
theorem QSt.putT (h : QSt w wr W n rs s t o) (a : GRat) : QSt w (put3 wr (w.heap.size + 1 + 1 + 1) a) W n rs s a o := ⟨h.1.put 1 rfl a, h.2.other (by omega) a⟩
theorem QSt.putO (h : QSt w wr W n rs s t o) (a : GRat) : QSt w (put3 wr (w.heap.size + 1 + 1 + 1 + 1) a) W n rs s t a := ⟨h.1.put 0 rfl a, h.2.other (by omega) a⟩
theorem QSt.lt (h : QSt w wr W n rs s t o) : w.heap.size + 1 + 1 + 1 + 1 < wr.heap.size := h.1.lt (p := (w.heap.size + 1 + 1 + 1 + 1, o)) (by simp)
theorem QSt.putG (h : QSt w wr W n rs s t o) {g : Nat} (hg : w.heap.size + 1 + 1 + 1 + 1 < g) (a : GRat) : QSt w (put3 wr g a) W n rs s t o :=
  ⟨h.1.putG (by omega) (by intro e he; simp at he; rcases he with rfl | rfl | rfl | rfl <;> (dsimp only; omega)), h.2.other (by omega) a⟩
theorem QSt.putR (h : QSt w wr W n rs s t o) {k : Nat} (hk : k < n) (a : GRat) : QSt w (((wr.setCell ⟨w.heap.size + 1, k * 3, none⟩ (.bool a.neg)).setCell ⟨w.heap.size + 1, k * 3 + 1, none⟩ (.string a.num)).setCell ⟨w.heap.size + 1, k * 3 + 2, none⟩ (.string a.den)) W n (rs.set k a) s t o :=
  ⟨h.1.putG (by omega) (by intro e he; simp at he; rcases he with rfl | rfl | rfl | rfl <;> (dsimp only; omega)), h.2.put hk a⟩
end

set_option maxRecDepth 100000 in
set_option maxHeartbeats 8000000 in
theorem Rates_any (W : GRat) (v u : Value) (l t : List GRat) (m : Nat) (w : World) (hm : m ≤ 1000) (hm0 : 0 < m) (hW : sB m W) (hl : l.length ≤ 1000) (hs : ∀ r ∈ l, sB m r) (ht : ∀ r ∈ t, sB m r) (hv : RL w v l) (hu : RL w u t) :
    Calls Tryd.prog 23 #[vRat W, v, u] w fun e w' => ∃ u, e = .returned u ∧ RL w' u ((gQ (qOf W) (qL l) (qL t)).map enc) ∧ Below w.heap.size w w' := by
  obtain ⟨a, cap, rfl, h1, h2⟩ := hv.open
  obtain ⟨ta, tc, rfl, t1, t2⟩ := hu.open
  have hmk := fun (w : World) => make_many (P := Tryd.prog) Tryd.underlying27 Tryd.infoRat w l.length (by omega) (by omega)
  have hmk' : ∀ w : World, (Instr.makeSlice 27 (.int .i64 l.length) (.int .i64 l.length)).run Tryd.prog w = .ok (.slice (some ⟨w.heap.size, 0, none⟩) l.length l.length) (w.alloc (.cells (madeCells #[.bool false, .string { data := #[] }, .string { data := #[] }] (l.length * 3)) 25)) := hmk
  have HSB := hid hs
  have HTB := hid ht
  have HQ := hid (qL_qB hs hm0)
  have HQT := hid (qL_qB ht hm0)
  have HWQ := hid (hW.qB hm0)
  have HPW := hid (fun w => positive_any W m w hW (by omega) hm0)
  unfold vRat at HPW
  have hx0 := hid (BS.nil w)
  clear hmk hs ht hW hv hu
  unfold vRat
  go_enter Tryd.func23, Tryd.ntmps23
  go_wp2
  clear hmk'
  go_loopw [11, 12, 13, 22] (fun _ _ _ i wr => ∃ k : Nat, k ≤ l.length ∧ i = .int .i64 k ∧ QSt w wr W l.length (genRow (fun j => gV (qOf W) (qL l) (qL t) (j + 1) - gV (qOf W) (qL l) (qL t) j) l.length k) (enc (gS (qL l) k)) (enc (gS (qL t) k)) (enc (gV (qOf W) (qL l) (qL t) k))) (fun _ _ _ i _ => l.length - (intOf i).toNat)
  case atStart =>
    refine ⟨0, Nat.zero_le _, rfl, ?_⟩
    rw [genRow_zero, show gV (qOf W) (qL l) (qL t) 0 = 0 from rfl, show gS (qL l) 0 = 0 from rfl, show gS (qL t) 0 = 0 from rfl, ← gZ_enc]
    have r0 := hx0.out.push W
    have e1 : (w.alloc (.cells #[.bool W.neg, .string W.num, .string W.den] 25)).heap.size = w.heap.size + 1 := by simp
    have r1 := OwnR.new (w.alloc (.cells #[.bool W.neg, .string W.num, .string W.den] 25)) l.length
    rw [e1] at r1
    generalize (Obj.cells (madeCells #[.bool false, .string { data := #[] }, .string { data := #[] }] (l.length * 3)) 25) = ob at *
    have b1 := (r0.alloc ob).push' (b := w.heap.size + 1 + 1) (by simp) gZ
    have b2 := b1.push' (b := w.heap.size + 1 + 1 + 1) (by simp) gZ
    have b3 := b2.push' (b := w.heap.size + 1 + 1 + 1 + 1) (by simp) gZ
    exact ⟨b3, ((r1.alloc _).alloc _).alloc _⟩
  case round =>
    obtain ⟨k, hk, rfl, hst⟩ := hrel
    by_cases hlt : k < l.length
    · rcases h2 with rfl | ⟨b, off, rfl, hbb, h3⟩
      · simp at hlt
      obtain ⟨g0, g1, g2, g3⟩ := h3 k hlt
      have hkb : k ≤ 1000 := by omega
      have hmk1 : m * (k + 1) ≤ 1000 * 1001 := Nat.mul_le_mul hm (by omega)
      have hmk2 : m * (k + 1 + 1) ≤ 1000 * 1002 := Nat.mul_le_mul hm (by omega)
      have qx : qB m (qOf l[k]) := (HSB.out _ (List.getElem_mem hlt)).qB hm0
      have q1 : qB 2000000 (gS (qL l) k) := (gS_qB HQ.out hm0 k).mono (by omega)
      have q2 : qB 2000000 (gS (qL l) (k + 1)) := (gS_qB HQ.out hm0 (k + 1)).mono (by omega)
      have q3 : qB 2000000 (gS (qL t) k) := (gS_qB HQT.out hm0 k).mono (by omega)
      have q4 : qB 2000000 (gV (qOf W) (qL l) (qL t) k) := (gV_qB HQT.out hm0 k).mono (by omega)
      have q5 : qB 2000000 (gV (qOf W) (qL l) (qL t) (k + 1)) := (gV_qB HQT.out hm0 (k + 1)).mono (by omega)
      have eS : gS (qL l) (k + 1) = gS (qL l) k + qpos (qOf l[k]) := by rw [gS_step, qL_get _ _ hlt]
      have HPX := hid (fun w => positive_any l[k] m w (HSB.out _ (List.getElem_mem hlt)) (by omega) hm0)
      have HAD := hid (fun w => qAdd_any (enc (gS (qL l) k)) (enc (qpos (qOf l[k]))) 2000000 m w (sB_enc q1) (sB_enc (qpos_qB qx)) (by decide) (by omega) (by decide) hm0)
      rw [qOf_enc, qOf_enc, ← eS] at HAD
      have HCM := hid (fun w => qCompare_any (enc (gS (qL l) (k + 1))) (enc (qpos (qOf W))) 2000000 m w (sB_enc q2) (sB_enc (qpos_qB HWQ.out)) (by decide) (by omega) (by decide) hm0)
      rw [qOf_enc, qOf_enc] at HCM
      have HSU := hid (fun w => qSubtract_any (enc (gV (qOf W) (qL l) (qL t) (k + 1))) (enc (gV (qOf W) (qL l) (qL t) k)) 2000000 2000000 w (sB_enc q5) (sB_enc q4) (by decide) (by decide) (by decide) (by decide))
      rw [qOf_enc, qOf_enc] at HSU
      have HRS := hid (genRow_set (fun j => gV (qOf W) (qL l) (qL t) (j + 1) - gV (qOf W) (qL l) (qL t) j) l.length k)
      have HT1 := hid (fun (hkt : k < t.length) => (⟨by rw [gS_step, qL_get _ _ hkt], HTB.out _ (List.getElem_mem hkt)⟩ : gS (qL t) (k + 1) = gS (qL t) k + qpos (qOf t[k]) ∧ sB m t[k]))
      have HT2 := hid (fun (hkt : ¬ k < t.length) => gS_over (qL t) (k := k) (by rw [qL_len]; omega))
      have HT3 := hid (fun (r : GRat) (hr : sB m r) (w : World) => qAdd_any (enc (gS (qL t) k)) (enc (qpos (qOf r))) 2000000 m w (sB_enc q3) (sB_enc (qpos_qB (hr.qB hm0))) (by decide) (by omega) (by decide) hm0)
      have HV1 := hid (fun (h : gS (qL l) (k + 1) < qpos (qOf W)) => (⟨qCmp_lt h, by simp only [gV]; rw [if_pos h]; exact gZ_enc⟩ : decide ((0 : Int) ≤ qCmp (gS (qL l) (k + 1)) (qpos (qOf W))) = false ∧ gZ = enc (gV (qOf W) (qL l) (qL t) (k + 1))))
      have HV2 := hid (fun (h : ¬ gS (qL l) (k + 1) < qpos (qOf W)) => (⟨qCmp_ge h, by simp only [gV]; rw [if_neg h]⟩ : decide ((0 : Int) ≤ qCmp (gS (qL l) (k + 1)) (qpos (qOf W))) = true ∧ gS (qL t) (k + 1) = gV (qOf W) (qL l) (qL t) (k + 1)))
      obtain ⟨x, hx⟩ : ∃ x, x = l[k] := ⟨_, rfl⟩
      rw [← hx] at g0 g1 g2 HPX HAD
      generalize e9 : genRow (fun j => gV (qOf W) (qL l) (qL t) (j + 1) - gV (qOf W) (qL l) (qL t) j) l.length (k + 1) = rs' at *
      have E9 := hid e9
      clear e9
      generalize genRow (fun j => gV (qOf W) (qL l) (qL t) (j + 1) - gV (qOf W) (qL l) (qL t) j) l.length k = rs at *
      generalize enc (gV (qOf W) (qL l) (qL t) (k + 1) - gV (qOf W) (qL l) (qL t) k) = rk at *
      generalize e8 : enc (gV (qOf W) (qL l) (qL t) (k + 1)) = ov at *
      have E8 := hid e8
      clear e8
      generalize enc (gV (qOf W) (qL l) (qL t) k) = bf at *
      generalize qCmp (gS (qL l) (k + 1)) (qpos (qOf W)) = cm at *
      generalize e7 : enc (gS (qL l) (k + 1)) = sm' at *
      have E7 := hid e7
      clear e7
      generalize enc (gS (qL l) k) = sm at *
      generalize enc (qpos (qOf x)) = px at *
      generalize enc (qpos (qOf W)) = pW at *
      have HST := hid hst
      have HC := hid (fun (W : World) (h : Below w.heap.size w W) => (⟨(h.cell (p := ⟨b, off + k * 3, none⟩) hbb).trans g0, (h.cell (p := ⟨b, off + k * 3 + 1, none⟩) hbb).trans g1, (h.cell (p := ⟨b, off + k * 3 + 2, none⟩) hbb).trans g2⟩ : C3 W b (off + k * 3) x))
      unfold vRat at HPX HAD HCM HSU HT3
      have hb3 : (0 : Int) ≤ (k : Int) := by omega
      have hb4 : (k : Int) < (l.length : Int) := by omega
      obtain ⟨c0, c1, c2⟩ := HC.out _ hst.1.1
      clear hx g0 g1 g2 g3 h3 hmk1 hmk2 qx q1 q2 q3 q4 q5 eS hst
      go_upto_region 6 with fail
      clear c0 c1 c2
      have hst := hid (HST.out.alloc (.cells #[.bool x.neg, .string x.num, .string x.den] 25))
      have hbx := hid (Bx.new wr x)
      have hgl := HST.out.lt
      obtain ⟨W0, hW0⟩ : ∃ W0, W0 = wr.alloc (.cells #[.bool x.neg, .string x.num, .string x.den] 25) := ⟨_, rfl⟩
      rw [← hW0] at hst hbx ⊢
      clear hW0
      obtain ⟨s0, s1, s2, s3, s4⟩ := (hst.out.1.box 2 rfl).facts
      obtain ⟨z0, z1, z2, z3, z4⟩ := hbx.out.facts
      go_cut [] (fun wx => QSt w wx W l.length rs sm' (enc (gS (qL t) k)) bf)
      case first =>
        refine wp_region_sched (by kernel_rfl) [(0, true), (1, true), (2, false), (3, false), (4, false)] (fun i => decide (i < 4)) (by kernel_rfl) (fun _ _ d _ _ h => by cases d <;> exact h) ?_
        refine wpS_take (o := ?o0_6_1) (v := ?v0_6_1) (a' := ?aa0_6_1) ?hi0_6_1 (Or.inl ⟨?hw0_6_1, ?hy0_6_1⟩) ?ha0_6_1 ?rest0_6_1
        case hi0_6_1 => (simp [go_sem]; rfl)
        case hw0_6_1 => rfl
        case hy0_6_1 => (intro w0 hF0; have hR0 := fun p h => FL.cell (p := p) hF0 h; first | (go_simp; done) | (go_simp; with_reducible rfl))
        case ha0_6_1 => (go_simp; rfl)
        refine wpS_take (o := ?o1_6_1) (v := ?v1_6_1) (a' := ?aa1_6_1) ?hi1_6_1 (Or.inl ⟨?hw1_6_1, ?hy1_6_1⟩) ?ha1_6_1 ?rest1_6_1
        case hi1_6_1 => (simp [go_sem]; rfl)
        case hw1_6_1 => rfl
        case hy1_6_1 => (intro w0 hF0; have hR0 := fun p h => FL.cell (p := p) hF0 h; first | (go_simp; done) | (go_simp; with_reducible rfl))
        case ha1_6_1 => (go_simp; rfl)
        refine wpS_eff (o := ?o2_6_1) ?hi2_6_1 ?hw2_6_1 (by rfl) (fun K hK => ?rest2_6_1)
        case hi2_6_1 => (simp [go_sem]; rfl)
        case hw2_6_1 => rfl
        go_simp
        refine Calls.mono (HPX.out _) ?_
        rintro e w1 ⟨rfl, hb5⟩
        have st1 := QSt.next (QSt.drew hst.out) hb5
        clear s0 s1 s2 s3 s4 z0 z1 z2 z3 z4
        go_simp
        refine hK _ _ (FL.of_below hb5) ?_
        clear hK K
        refine wpS_eff (o := ?o3_6_1) ?hi3_6_1 ?hw3_6_1 (by rfl) (fun K hK => ?rest3_6_1)
        case hi3_6_1 => (simp [go_sem]; rfl)
        case hw3_6_1 => rfl
        go_simp
        refine Calls.mono (HAD.out _) ?_
        rintro e w2 ⟨rfl, hb6⟩
        have st2 := st1.next hb6
        obtain ⟨s0, s1, s2, s3, s4⟩ := (st2.1.box 2 rfl).facts
        go_simp
        refine hK _ _ (FL.of_below hb6) ?_
        clear hK K
        refine wpS_tail 4 (fun j hj => by simp; omega) ?_
        simp only [List.drop_succ_cons, List.drop_zero]
        go_wp2
        go_meet
        exact st2.putS sm'
      case rest =>
        clear s0 s1 s2 s3 s4 z0 z1 z2 z3 z4 hst hbx HPX HAD HST HC
        have HST := hid hcut
        clear hcut
        go_upto_if 34 with fail
        go_cut [] (fun wx => QSt w wx W l.length rs sm' (enc (gS (qL t) (k + 1))) bf)
        case first =>
          by_cases hkt : k < t.length
          · rcases t2 with rfl | ⟨b, off, rfl, hbb, h3⟩
            · simp at hkt
            obtain ⟨g0, g1, g2, g3⟩ := h3 k hkt
            have HX := HT1.out hkt
            have HPX := hid (fun w => positive_any t[k] m w HX.2 (by omega) hm0)
            have HAD := hid (HT3.out _ HX.2)
            rw [qOf_enc, qOf_enc, ← HX.1] at HAD
            obtain ⟨x, hx⟩ : ∃ x, x = t[k] := ⟨_, rfl⟩
            rw [← hx] at g0 g1 g2 HPX HAD
            generalize enc (gS (qL t) (k + 1)) = tm' at *
            generalize enc (gS (qL t) k) = tm at *
            generalize enc (qpos (qOf x)) = px at *
            unfold vRat at HPX
            have hb5 : (k : Int) < (t.length : Int) := by omega
            have c0 := (HST.out.1.1.cell (p := ⟨b, off + k * 3, none⟩) hbb).trans g0
            have c1 := (HST.out.1.1.cell (p := ⟨b, off + k * 3 + 1, none⟩) hbb).trans g1
            have c2 := (HST.out.1.1.cell (p := ⟨b, off + k * 3 + 2, none⟩) hbb).trans g2
            obtain ⟨s0, s1, s2, s3, s4⟩ := (HST.out.1.box 1 rfl).facts
            clear HX HT1 HT2 HT3 HV1 HV2 h3 g0 g1 g2 g3 hx HCM HSU
            go_wp2_with fail
            refine wp_region_sched (by kernel_rfl) [(0, true), (1, true), (2, true), (3, true), (4, true), (5, false), (6, false), (7, false)] (fun i => decide (i < 7)) (by kernel_rfl) (fun _ _ d _ _ h => by cases d <;> exact h) ?_
            refine wpS_take (o := ?o0_8_2) (v := ?v0_8_2) (a' := ?aa0_8_2) ?hi0_8_2 (Or.inl ⟨?hw0_8_2, ?hy0_8_2⟩) ?ha0_8_2 ?rest0_8_2
            case hi0_8_2 => (simp [go_sem]; rfl)
            case hw0_8_2 => rfl
            case hy0_8_2 => (intro w0 hF0; have hR0 := fun p h => FL.cell (p := p) hF0 h; first | (go_simp; done) | (go_simp; with_reducible rfl))
            case ha0_8_2 => (go_simp; rfl)
            refine wpS_take (o := ?o1_8_2) (v := ?v1_8_2) (a' := ?aa1_8_2) ?hi1_8_2 (Or.inl ⟨?hw1_8_2, ?hy1_8_2⟩) ?ha1_8_2 ?rest1_8_2
            case hi1_8_2 => (simp [go_sem]; rfl)
            case hw1_8_2 => rfl
            case hy1_8_2 => (intro w0 hF0; clear hF0; first | (go_simp; done) | (go_simp; with_reducible rfl))
            case ha1_8_2 => (go_simp; rfl)
            refine wpS_take (o := ?o2_8_2) (v := ?v2_8_2) (a' := ?aa2_8_2) ?hi2_8_2 (Or.inl ⟨?hw2_8_2, ?hy2_8_2⟩) ?ha2_8_2 ?rest2_8_2
            case hi2_8_2 => (simp [go_sem]; rfl)
            case hw2_8_2 => rfl
            case hy2_8_2 => (intro w0 hF0; clear hF0; first | (go_simp; done) | (go_simp; with_reducible rfl))
            case ha2_8_2 => (go_simp; rfl)
            refine wpS_take (o := ?o3_8_2) (v := ?v3_8_2) (a' := ?aa3_8_2) ?hi3_8_2 (Or.inl ⟨?hw3_8_2, ?hy3_8_2⟩) ?ha3_8_2 ?rest3_8_2
            case hi3_8_2 => (simp [go_sem]; rfl)
            case hw3_8_2 => rfl
            case hy3_8_2 => (intro w0 hF0; clear hF0; first | (go_simp; done) | (go_simp; with_reducible rfl))
            case ha3_8_2 => (go_simp; rfl)
            refine wpS_take (o := ?o4_8_2) (v := ?v4_8_2) (a' := ?aa4_8_2) ?hi4_8_2 (Or.inl ⟨?hw4_8_2, ?hy4_8_2⟩) ?ha4_8_2 ?rest4_8_2
            case hi4_8_2 => (simp [go_sem]; rfl)
            case hw4_8_2 => rfl
            case hy4_8_2 => (intro w0 hF0; have hR0 := fun p h => FL.cell (p := p) hF0 h; first | (go_simp; done) | (go_simp; with_reducible rfl))
            case ha4_8_2 => (go_simp; rfl)
            refine wpS_eff (o := ?o5_8_2) ?hi5_8_2 ?hw5_8_2 (by rfl) (fun K hK => ?rest5_8_2)
            case hi5_8_2 => (simp [go_sem]; rfl)
            case hw5_8_2 => rfl
            go_simp
            refine Calls.mono (HPX.out _) ?_
            rintro e w1 ⟨rfl, hb6⟩
            have st1 := QSt.next (QSt.drew HST.out) hb6
            clear s0 s1 s2 s3 s4 c0 c1 c2
            go_simp
            refine hK _ _ (FL.of_below hb6) ?_
            clear hK K
            refine wpS_eff (o := ?o6_8_2) ?hi6_8_2 ?hw6_8_2 (by rfl) (fun K hK => ?rest6_8_2)
            case hi6_8_2 => (simp [go_sem]; rfl)
            case hw6_8_2 => rfl
            go_simp
            refine Calls.mono (HAD.out _) ?_
            rintro e w2 ⟨rfl, hb7⟩
            have st2 := st1.next hb7
            obtain ⟨s0, s1, s2, s3, s4⟩ := (st2.1.box 1 rfl).facts
            go_simp
            refine hK _ _ (FL.of_below hb7) ?_
            clear hK K
            refine wpS_tail 7 (fun j hj => by simp; omega) ?_
            simp only [List.drop_succ_cons, List.drop_zero]
            go_wp2
            go_meet
            exact st2.putT tm'
          · have e5 := hid (HT2.out hkt)
            have hb5 : decide ((k : Int) < (t.length : Int)) = false := by simp; omega
            clear HT1 HT2 HT3 HV1 HV2 HCM HSU
            go_wp2
            go_meet
            rw [e5.out]
            exact HST.out
        case rest =>
          clear HT1 HT2 HT3 HST
          have HST := hid (hcut.alloc (.cells #[.bool gZ.neg, .string gZ.num, .string gZ.den] 25))
          have hbx := hid (Bx.new wc gZ)
          have hgl2 := hcut.lt
          clear hcut
          go_upto_region 10 with fail
          obtain ⟨W0, hW0⟩ : ∃ W0, W0 = wc.alloc (.cells #[.bool gZ.neg, .string gZ.num, .string gZ.den] 25) := ⟨_, rfl⟩
          rw [← hW0] at HST hbx
          change Code.wp _ _ _ _ (wc.alloc (.cells #[.bool gZ.neg, .string gZ.num, .string gZ.den] 25))
          rw [← hW0]
          clear hW0
          obtain ⟨s0, s1, s2, s3, s4⟩ := (HST.out.1.box 2 rfl).facts
          obtain ⟨z0, z1, z2, z3, z4⟩ := (HST.out.1.box 3 rfl).facts
          refine wp_region_sched (by kernel_rfl) [(0, true), (1, true), (2, false), (3, false), (4, true)] (fun i => true) (by kernel_rfl) (fun _ _ d _ _ h => by cases d <;> exact h) ?_
          refine wpS_take (o := ?o0_10_3) (v := ?v0_10_3) (a' := ?aa0_10_3) ?hi0_10_3 (Or.inl ⟨?hw0_10_3, ?hy0_10_3⟩) ?ha0_10_3 ?rest0_10_3
          case hi0_10_3 => (simp [go_sem]; rfl)
          case hw0_10_3 => rfl
          case hy0_10_3 => (intro w0 hF0; have hR0 := fun p h => FL.cell (p := p) hF0 h; first | (go_simp; done) | (go_simp; with_reducible rfl))
          case ha0_10_3 => (go_simp; rfl)
          refine wpS_take (o := ?o1_10_3) (v := ?v1_10_3) (a' := ?aa1_10_3) ?hi1_10_3 (Or.inl ⟨?hw1_10_3, ?hy1_10_3⟩) ?ha1_10_3 ?rest1_10_3
          case hi1_10_3 => (simp [go_sem]; rfl)
          case hw1_10_3 => rfl
          case hy1_10_3 => (intro w0 hF0; have hR0 := fun p h => FL.cell (p := p) hF0 h; first | (go_simp; done) | (go_simp; with_reducible rfl))
          case ha1_10_3 => (go_simp; rfl)
          refine wpS_eff (o := ?o2_10_3) ?hi2_10_3 ?hw2_10_3 (by rfl) (fun K hK => ?rest2_10_3)
          case hi2_10_3 => (simp [go_sem]; rfl)
          case hw2_10_3 => rfl
          go_simp
          refine Calls.mono (HPW.out _) ?_
          rintro e w1 ⟨rfl, hb6⟩
          have st1 := QSt.next (QSt.drew HST.out) hb6
          have bx1 := Bx.below (Bx.drew hbx.out) hb6
          clear s0 s1 s2 s3 s4 z0 z1 z2 z3 z4
          go_simp
          refine hK _ _ (FL.of_below hb6) ?_
          clear hK K
          refine wpS_eff (o := ?o3_10_3) ?hi3_10_3 ?hw3_10_3 (by rfl) (fun K hK => ?rest3_10_3)
          case hi3_10_3 => (simp [go_sem]; rfl)
          case hw3_10_3 => rfl
          go_simp
          refine Calls.mono (HCM.out _) ?_
          rintro e w2 ⟨rfl, hb7⟩
          have st2 := st1.next hb7
          have bx2 := bx1.below hb7
          go_simp
          refine hK _ _ (FL.of_below hb7) ?_
          clear hK K
          refine wpS_take (o := ?o4_10_3) (v := ?v4_10_3) (a' := ?aa4_10_3) ?hi4_10_3 (Or.inl ⟨?hw4_10_3, ?hy4_10_3⟩) ?ha4_10_3 ?rest4_10_3
          case hi4_10_3 => (simp [go_sem]; rfl)
          case hw4_10_3 => rfl
          case hy4_10_3 => (intro w0 hF0; clear hF0; first | (go_simp; done) | (go_simp; with_reducible rfl))
          case ha4_10_3 => (go_simp; rfl)
          refine wpS_done ?_
          go_upto_if 47 with fail
          clear st1 bx1 hb6 hb7 HPW HCM HST hbx
          have HST := hid st2
          have HBX := hid bx2
          clear st2 bx2
          go_cut [] (fun wx => QSt w wx W l.length rs sm' (enc (gS (qL t) (k + 1))) bf ∧ Bx wx wc.heap.size ov)
          case first =>
            by_cases hlw : gS (qL l) (k + 1) < qpos (qOf W)
            · obtain ⟨d1, d2⟩ := HV1.out hlw
              have D2 := hid d2
              have d3 : cm < 0 := by simpa using d1
              clear HV1 HV2 hlw d2 d1
              go_wp2
              go_meet
              exact ⟨HST.out, by rw [← D2.out]; exact HBX.out⟩
            · obtain ⟨d1, d2⟩ := HV2.out hlw
              have D2 := hid d2
              obtain ⟨s0, s1, s2, s3, s4⟩ := (HST.out.1.box 1 rfl).facts
              obtain ⟨z0, z1, z2, z3, z4⟩ := HBX.out.facts
              have d3 : 0 ≤ cm := by simpa using d1
              have D4 := hid (show enc (gS (qL t) (k + 1)) = ov by rw [d2, E8.out])
              clear HV1 HV2 hlw d2 d1 D2
              rw [D4.out] at s0 s1 s2 HST
              go_wp2
              go_meet
              rw [D4.out]
              exact ⟨HST.out.putG (by omega) _, HBX.out.put _⟩
          case rest =>
            clear HST HBX HV1 HV2
            obtain ⟨hst, hbx⟩ := hcut
            have HST := hid hst
            have HBX := hid hbx
            obtain ⟨s0, s1, s2, s3, s4⟩ := hbx.facts
            obtain ⟨z0, z1, z2, z3, z4⟩ := (hst.1.box 0 rfl).facts
            clear hst hbx
            go_wp2_with fail
            refine Calls.mono (HSU.out _) ?_
            rintro e w3 ⟨rfl, hb6⟩
            have st1 := QSt.next HST.out hb6
            have bx1 := Bx.below HBX.out hb6
            clear s0 s1 s2 s3 s4 z0 z1 z2 z3 z4
            obtain ⟨s0, s1, s2, s3, s4⟩ := st1.2.facts hlt
            have st2 := st1.putR hlt rk
            rw [HRS.out, ← E9.out] at st2
            have bx2 := Bx.other' (p := k * 3) (q := k * 3 + 1) (s := k * 3 + 2) (x := .bool rk.neg) (y := .string rk.num) (z := .string rk.den) (b' := w.heap.size + 1) bx1 (by omega)
            have HS2 := hid st2
            obtain ⟨y0, y1, y2, y3, y4⟩ := bx2.facts
            obtain ⟨z0, z1, z2, z3, z4⟩ := (st2.1.box 0 rfl).facts
            clear st1 bx1 bx2 st2 HST HBX
            go_wp2
            go_roundw
            case rel => exact ⟨k + 1, hlt, by go_num, by rw [E8.out, E7.out]; exact HS2.out.putO ov⟩
            case measure => simp [intOf]; omega
    · have hk' : k = l.length := by omega
      have hR := OwnR.reads hst.2 (by unfold maxLen; omega)
      have e1 := ratesRow (qOf W) (qL l) (qL t)
      rw [qL_len] at e1
      rw [hk', e1] at hR
      have hsz : ∀ r ∈ (gQ (qOf W) (qL l) (qL t)).map enc, sB maxLen r := by
        intro r hr
        obtain ⟨q, hq, rfl⟩ := List.mem_map.1 hr
        obtain ⟨j, hj, rfl⟩ := List.mem_map.1 hq
        have hj' : j < l.length := by simpa [qL_len] using hj
        have hmk1 : m * (j + 1) ≤ 1000 * 1001 := Nat.mul_le_mul hm (by omega)
        have hmk2 : m * (j + 1 + 1) ≤ 1000 * 1002 := Nat.mul_le_mul hm (by omega)
        exact (sB_enc ((gV_qB (W := qOf W) (l := qL l) HQT.out hm0 (j + 1)).sub (gV_qB (W := qOf W) (l := qL l) HQT.out hm0 j))).mono (by unfold maxLen; omega)
      have HR := hid (hR hsz)
      have HB := hid hst.1.1
      clear hR e1 hsz hst hk'
      go_wp2
      go_ret
      exact ⟨_, rfl, HR.out, HB.out⟩

end Go.Proofs.YtgmedcncbpdimaaDoor
end
section
/- insolvencyref17.Refunds: walked. -/
namespace Go.Proofs.YtgmedcncbpdimaaDoor
open Go.RowKit
attribute [local go_sem ↓] Go.wp_at_zero Go.wp_at_succ

/-- Two boxes of the call: an amount, the sum. -/
def FSt (w wr : World) (bp bs : Nat) (p s : GRat) : Prop :=
  Bx wr bp p ∧ Bx wr bs s ∧ bp < bs ∧ w.heap.size ≤ bp ∧ Below w.heap.size w wr
section
variable {w wr : World} {bp bs : Nat} {p s : GRat}
theorem FSt.next {w' : World} (h : FSt w wr bp bs p s) (hb : Below wr.heap.size wr w') : FSt w w' bp bs p s := ⟨h.1.below hb, h.2.1.below hb, h.2.2.1, h.2.2.2.1, h.2.2.2.2.step hb⟩
theorem FSt.drew (h : FSt w wr bp bs p s) : FSt w wr.drew bp bs p s := ⟨h.1.drew, h.2.1.drew, h.2.2.1, h.2.2.2.1, Below.drew h.2.2.2.2⟩
theorem FSt.alloc (h : FSt w wr bp bs p s) (b : Obj) : FSt w (wr.alloc b) bp bs p s := h.next ((Below.refl _ _).alloc (Nat.le_refl _) _)
theorem FSt.putS (h : FSt w wr bp bs p s) (a : GRat) : FSt w (put3 wr bs a) bp bs p a :=
  ⟨h.1.other (by have := h.2.2.1; omega) a, h.2.1.put a, h.2.2.1, h.2.2.2.1, below_put h.2.2.2.2 (by have := h.2.2.1; have := h.2.2.2.1; omega) a⟩
theorem FSt.grown (h : FSt w wr bp bs p s) {B : Nat} {w' : World} (hb : Below B wr w') (hB : bs < B) (hw : w.heap.size ≤ B) : FSt w w' bp bs p s :=
  ⟨Blk3.below h.1 hb (by have := h.2.2.1; omega), Blk3.below h.2.1 hb hB, h.2.2.1, h.2.2.2.1, h.2.2.2.2.trans (hb.mono hw)⟩
end

theorem rGrow.put {w : World} {v : Value} {base b : Nat} {l : List GRat} (h : rGrow 25 3 rRat base w v l) (hb : b < base) (a : GRat) : rGrow 25 3 rRat base (put3 w b a) v l := by
  obtain ⟨xs, h1, h2⟩ := h
  refine ⟨xs, ?_, fun j hj => ?_⟩
  · exact ownsRow_setCell_below (ownsRow_setCell_below (ownsRow_setCell_below h1 (a := ⟨b, 0, none⟩) hb _) (a := ⟨b, 1, none⟩) hb _) (a := ⟨b, 2, none⟩) hb _
  · exact h2 j hj

theorem gR_take (W : Rat) (l : List Rat) (k : Nat) (h : k < l.length) : (gR W l).take k ++ [gO W l (k + 1) - gO W l k] = (gR W l).take (k + 1) := by
  have h1 : k < (gR W l).length := by rw [gR_len]; exact h
  rw [List.take_succ_eq_append_getElem h1]
  congr 2
  simp [gR]

set_option maxRecDepth 100000 in
set_option maxHeartbeats 4000000 in
theorem rRefunds_any (W : GRat) (v : Value) (l : List GRat) (m : Nat) (w : World) (hm : m ≤ 1000) (hm0 : 0 < m) (hW : sB m W) (hl : l.length ≤ 1000) (hs : ∀ r ∈ l, sB m r) (hv : RL w v l) :
    Calls Tryd.prog 18 #[vRat W, v] w fun e w' => ∃ u, e = .returned u ∧ RL w' u ((gR (qOf W) (qL l)).map enc) ∧ Below w.heap.size w w' := by
  obtain ⟨a, cap, rfl, h1, h2⟩ := hv.open
  have HSB := hid hs
  have HQ := hid (qL_qB hs hm0)
  have HWQ := hid (hW.qB hm0)
  have HPW := hid (fun w => amount_any W m w hW (by omega))
  have qpW := qpos_qB (hW.qB hm0)
  generalize hpw : qpos (qOf W) = pw at *
  have HPE := hid hpw
  obtain ⟨pW, hpW⟩ : ∃ pW, pW = enc pw := ⟨_, rfl⟩
  rw [← hpW] at HPW
  have HPEW := hid hpW
  have HQPW := hid qpW
  unfold vRat at HPW
  clear hs hW hv hpw hpW qpW
  unfold vRat
  go_enter Tryd.func18, Tryd.ntmps18
  go_wp2_with fail
  refine Calls.mono (HPW.out _) ?_
  rintro e w1 ⟨rfl, hb1⟩
  have hb0 : Below w.heap.size w w1 := Below.step ((Below.refl w.heap.size w).alloc (Nat.le_refl _) _) hb1
  have HX0 := hid (Bx2.new w1 pW gZ)
  have HB0 := hid hb0
  have hsz := hb0.size
  clear hb1 hb0
  go_wp2
  go_loopw [6, 8, 9] (fun p i _ wr => ∃ k : Nat, k ≤ l.length ∧ i = .int .i64 k ∧ FSt w wr w1.heap.size (w1.heap.size + 1) pW (enc (gS (qL l) k)) ∧ rGrow 25 3 rRat (w1.heap.size + 1 + 1) wr p (((gR (qOf W) (qL l)).take k).map enc)) (fun _ i _ _ => l.length - (intOf i).toNat)
  case atStart =>
    refine ⟨0, Nat.zero_le _, rfl, ?_, rGrow.nil _ _ _ _ _⟩
    rw [show gS (qL l) 0 = 0 from rfl, ← gZ_enc]
    exact ⟨HX0.out.1, HX0.out.2.1, by omega, hsz, HB0.out.step HX0.out.2.2⟩
  case round =>
    obtain ⟨k, hk, rfl, hst, hg⟩ := hrel
    by_cases hlt : k < l.length
    · rcases h2 with rfl | ⟨b, off, rfl, hbb, h3⟩
      · simp at hlt
      obtain ⟨g0, g1, g2, g3⟩ := h3 k hlt
      have hkb : k ≤ 1000 := by omega
      have hmk1 : m * (k + 1) ≤ 1000 * 1001 := Nat.mul_le_mul hm (by omega)
      have hmk2 : m * (k + 1 + 1) ≤ 1000 * 1002 := Nat.mul_le_mul hm (by omega)
      have qx : qB m (qOf l[k]) := (HSB.out _ (List.getElem_mem hlt)).qB hm0
      have q1 : qB 2000000 (gS (qL l) k) := (gS_qB HQ.out hm0 k).mono (by omega)
      have q2 : qB 2000000 (gS (qL l) (k + 1)) := (gS_qB HQ.out hm0 (k + 1)).mono (by omega)
      have q3 : qB 3000000 (gO (qOf W) (qL l) k) := (gO_qB HWQ.out HQ.out hm0 k).mono (by omega)
      have q4 : qB 3000000 (gO (qOf W) (qL l) (k + 1)) := (gO_qB HWQ.out HQ.out hm0 (k + 1)).mono (by omega)
      have q7 : qB 10000000 (gO (qOf W) (qL l) (k + 1) - gO (qOf W) (qL l) k) := (q4.sub q3).mono (by decide)
      have eS : gS (qL l) (k + 1) = gS (qL l) k + qpos (qOf l[k]) := by rw [gS_step, qL_get _ _ hlt]
      have HPX := hid (fun w => amount_any l[k] m w (HSB.out _ (List.getElem_mem hlt)) (by omega))
      have HAD := hid (fun w => rPlus_any (gS (qL l) k) (qpos (qOf l[k])) 2000000 m w q1 (qpos_qB qx) (by decide) (by omega))
      rw [← eS] at HAD
      have HM1 := hid (fun w => rMinus_any (gS (qL l) k) pw 2000000 m w q1 HQPW.out (by decide) (by omega))
      have HM2 := hid (fun w => rMinus_any (gS (qL l) (k + 1)) pw 2000000 m w q2 HQPW.out (by decide) (by omega))
      have HP1 := hid (fun w => rPositive_any (enc (gS (qL l) k - pw)) w)
      have HP2 := hid (fun w => rPositive_any (enc (gS (qL l) (k + 1) - pw)) w)
      rw [gPos_enc] at HP1 HP2
      rw [← HPE.out] at HM1 HM2 HP1 HP2
      rw [show qpos (gS (qL l) k - qpos (qOf W)) = gO (qOf W) (qL l) k from rfl] at HP1
      rw [show qpos (gS (qL l) (k + 1) - qpos (qOf W)) = gO (qOf W) (qL l) (k + 1) from rfl] at HP2
      rw [HPE.out] at HM1 HM2 HP1 HP2
      rw [← HPEW.out] at HM1 HM2
      have HM3 := hid (fun w => rMinus_any (gO (qOf W) (qL l) (k + 1)) (gO (qOf W) (qL l) k) 3000000 3000000 w q4 q3 (by decide) (by decide))
      have HT := hid (gR_take (qOf W) (qL l) k (by rw [qL_len]; exact hlt))
      have HS := hid (sB_max (sB_enc q7) (by decide))
      have HTM := hid (show ((gR (qOf W) (qL l)).take k).map enc ++ [enc (gO (qOf W) (qL l) (k + 1) - gO (qOf W) (qL l) k)] = ((gR (qOf W) (qL l)).take (k + 1)).map enc by rw [← HT.out, List.map_append]; rfl)
      have HL := hid (show (((gR (qOf W) (qL l)).take k).map enc).length ≤ 1000 by simp; omega)
      obtain ⟨x, hx⟩ : ∃ x, x = l[k] := ⟨_, rfl⟩
      rw [← hx] at g0 g1 g2 HPX HAD
      clear HT
      generalize e9 : ((gR (qOf W) (qL l)).take (k + 1)).map enc = ds' at *
      have E9 := hid e9
      clear e9
      generalize ((gR (qOf W) (qL l)).take k).map enc = ds at *
      generalize enc (gO (qOf W) (qL l) (k + 1) - gO (qOf W) (qL l) k) = rk at *
      generalize enc (gO (qOf W) (qL l) (k + 1)) = ov at *
      generalize enc (gO (qOf W) (qL l) k) = bf at *
      generalize enc (gS (qL l) (k + 1) - pw) = dd at *
      generalize enc (gS (qL l) k - pw) = dc at *
      generalize e7 : enc (gS (qL l) (k + 1)) = sm' at *
      have E7 := hid e7
      clear e7
      generalize enc (gS (qL l) k) = sm at *
      generalize enc (qpos (qOf x)) = px at *
      have HG := hid hg
      have HST := hid hst
      have HC := hid (fun (W : World) (h : Below w.heap.size w W) => (⟨(h.cell (p := ⟨b, off + k * 3, none⟩) hbb).trans g0, (h.cell (p := ⟨b, off + k * 3 + 1, none⟩) hbb).trans g1, (h.cell (p := ⟨b, off + k * 3 + 2, none⟩) hbb).trans g2⟩ : C3 W b (off + k * 3) x))
      obtain ⟨s0, s1, s2, s3, s4⟩ := hst.2.1.facts
      obtain ⟨z0, z1, z2, z3, z4⟩ := hst.1.facts
      have hb3 : (0 : Int) ≤ (k : Int) := by omega
      have hb4 : (k : Int) < (l.length : Int) := by omega
      unfold vRat at HPX HAD HM1 HM2 HP1 HP2 HM3
      clear hx g3 h3 g0 g1 g2 hmk1 hmk2 qx q1 q2 q3 q4 q7 eS hst hg
      go_wp2_with fail
      refine Calls.mono (HM1.out _) ?_
      rintro e w2 ⟨rfl, hb2⟩
      clear s0 s1 s2 s3 s4 z0 z1 z2 z3 z4
      go_wp2_with fail
      refine Calls.mono (HP1.out _) ?_
      rintro e w3 ⟨rfl, hb3'⟩
      have st3 := (HST.out.next hb2).next hb3'
      have gr3 := (HG.out.kept stays_rRat hb2).kept stays_rRat hb3'
      have hbox := (Below.refl w3.heap.size w3).alloc (Nat.le_refl _) (.cells #[.bool bf.neg, .string bf.num, .string bf.den] 25)
      have hst := hid (st3.next hbox)
      have hgr := hid (gr3.kept stays_rRat hbox)
      have hbx := hid (Bx.new w3 bf)
      have hgb : w1.heap.size + 1 < w3.heap.size := Blk3.lt st3.2.1
      clear st3 gr3 hbox hb2 hb3' HST HG
      go_upto_region 8 with fail
      obtain ⟨W0, hW0⟩ : ∃ W0, W0 = w3.alloc (.cells #[.bool bf.neg, .string bf.num, .string bf.den] 25) := ⟨_, rfl⟩
      rw [← hW0] at hst hgr hbx ⊢
      clear hW0
      go_cut [] (fun wx => FSt w wx w1.heap.size (w1.heap.size + 1) pW sm' ∧ Bx wx w3.heap.size bf ∧ rGrow 25 3 rRat (w1.heap.size + 1 + 1) wx u6 ds)
      case first =>
        obtain ⟨s0, s1, s2, s3, s4⟩ := hst.out.2.1.facts
        obtain ⟨c0, c1, c2⟩ := HC.out _ hst.out.2.2.2.2
        refine wp_region_sched (by kernel_rfl) [(0, true), (1, true), (2, true), (3, true), (4, true), (5, false), (6, false), (7, false)] (fun i => decide (i < 7)) (by kernel_rfl) (fun _ _ d _ _ h => by cases d <;> exact h) ?_
        refine wpS_take (o := ?o0_8_1) (v := ?v0_8_1) (a' := ?aa0_8_1) ?hi0_8_1 (Or.inl ⟨?hw0_8_1, ?hy0_8_1⟩) ?ha0_8_1 ?rest0_8_1
        case hi0_8_1 => (simp [go_sem]; rfl)
        case hw0_8_1 => rfl
        case hy0_8_1 => (intro w0 hF0; have hR0 := fun p h => FL.cell (p := p) hF0 h; first | (go_simp; done) | (go_simp; with_reducible rfl))
        case ha0_8_1 => (go_simp; rfl)
        refine wpS_take (o := ?o1_8_1) (v := ?v1_8_1) (a' := ?aa1_8_1) ?hi1_8_1 (Or.inl ⟨?hw1_8_1, ?hy1_8_1⟩) ?ha1_8_1 ?rest1_8_1
        case hi1_8_1 => (simp [go_sem]; rfl)
        case hw1_8_1 => rfl
        case hy1_8_1 => (intro w0 hF0; clear hF0; first | (go_simp; done) | (go_simp; with_reducible rfl))
        case ha1_8_1 => (go_simp; rfl)
        refine wpS_take (o := ?o2_8_1) (v := ?v2_8_1) (a' := ?aa2_8_1) ?hi2_8_1 (Or.inl ⟨?hw2_8_1, ?hy2_8_1⟩) ?ha2_8_1 ?rest2_8_1
        case hi2_8_1 => (simp [go_sem]; rfl)
        case hw2_8_1 => rfl
        case hy2_8_1 => (intro w0 hF0; clear hF0; first | (go_simp; done) | (go_simp; with_reducible rfl))
        case ha2_8_1 => (go_simp; rfl)
        refine wpS_take (o := ?o3_8_1) (v := ?v3_8_1) (a' := ?aa3_8_1) ?hi3_8_1 (Or.inl ⟨?hw3_8_1, ?hy3_8_1⟩) ?ha3_8_1 ?rest3_8_1
        case hi3_8_1 => (simp [go_sem]; rfl)
        case hw3_8_1 => rfl
        case hy3_8_1 => (intro w0 hF0; clear hF0; first | (go_simp; done) | (go_simp; with_reducible rfl))
        case ha3_8_1 => (go_simp; rfl)
        refine wpS_take (o := ?o4_8_1) (v := ?v4_8_1) (a' := ?aa4_8_1) ?hi4_8_1 (Or.inl ⟨?hw4_8_1, ?hy4_8_1⟩) ?ha4_8_1 ?rest4_8_1
        case hi4_8_1 => (simp [go_sem]; rfl)
        case hw4_8_1 => rfl
        case hy4_8_1 => (intro w0 hF0; have hR0 := fun p h => FL.cell (p := p) hF0 h; first | (go_simp; done) | (go_simp; with_reducible rfl))
        case ha4_8_1 => (go_simp; rfl)
        refine wpS_eff (o := ?o5_8_1) ?hi5_8_1 ?hw5_8_1 (by rfl) (fun K hK => ?rest5_8_1)
        case hi5_8_1 => (simp [go_sem]; rfl)
        case hw5_8_1 => rfl
        go_simp
        refine Calls.mono (HPX.out _) ?_
        rintro e w4 ⟨rfl, hbA⟩
        have st4 := FSt.next (FSt.drew hst.out) hbA
        have gr4 := rGrow.kept stays_rRat hgr.out (Below.drew (Below.refl _ _) |>.trans hbA)
        have bx4 := Bx.below (Bx.drew hbx.out) hbA
        clear s0 s1 s2 s3 s4 c0 c1 c2
        go_simp
        refine hK _ _ (FL.of_below hbA) ?_
        clear hK K
        refine wpS_eff (o := ?o6_8_1) ?hi6_8_1 ?hw6_8_1 (by rfl) (fun K hK => ?rest6_8_1)
        case hi6_8_1 => (simp [go_sem]; rfl)
        case hw6_8_1 => rfl
        go_simp
        refine Calls.mono (HAD.out _) ?_
        rintro e w5 ⟨rfl, hbB⟩
        have st5 := st4.next hbB
        have gr5 := gr4.kept stays_rRat hbB
        have bx5 := bx4.below hbB
        obtain ⟨s0, s1, s2, s3, s4⟩ := st5.2.1.facts
        go_simp
        refine hK _ _ (FL.of_below hbB) ?_
        clear hK K
        refine wpS_tail 7 (fun j hj => by simp; omega) ?_
        simp only [List.drop_succ_cons, List.drop_zero]
        go_wp2
        go_meet
        exact ⟨st5.putS sm', bx5.other (by omega) sm', gr5.put (by omega) sm'⟩
      case rest =>
        clear hst hgr hbx HPX HAD HM1 HP1
        obtain ⟨hst, hbx, hgr⟩ := hcut
        have HST := hid hst
        have HGR := hid hgr
        have HBX := hid hbx
        obtain ⟨s0, s1, s2, s3, s4⟩ := hst.2.1.facts
        obtain ⟨z0, z1, z2, z3, z4⟩ := hst.1.facts
        obtain ⟨y0, y1, y2, y3, y4⟩ := hbx.facts
        clear hst hgr hbx
        go_upto_region 9 with fail
        refine wp_region_sched (by kernel_rfl) [(0, true), (1, true), (2, true), (5, true), (3, false), (4, false), (6, false), (7, false), (8, false), (9, false)] (fun i => decide (i < 8)) (by kernel_rfl) (fun _ _ d _ _ h => by cases d <;> exact h) ?_
        refine wpS_take (o := ?o0_9_2) (v := ?v0_9_2) (a' := ?aa0_9_2) ?hi0_9_2 (Or.inl ⟨?hw0_9_2, ?hy0_9_2⟩) ?ha0_9_2 ?rest0_9_2
        case hi0_9_2 => (simp [go_sem]; rfl)
        case hw0_9_2 => rfl
        case hy0_9_2 => (intro w0 hF0; clear hF0; first | (go_simp; done) | (go_simp; with_reducible rfl))
        case ha0_9_2 => (go_simp; rfl)
        refine wpS_take (o := ?o1_9_2) (v := ?v1_9_2) (a' := ?aa1_9_2) ?hi1_9_2 (Or.inl ⟨?hw1_9_2, ?hy1_9_2⟩) ?ha1_9_2 ?rest1_9_2
        case hi1_9_2 => (simp [go_sem]; rfl)
        case hw1_9_2 => rfl
        case hy1_9_2 => (intro w0 hF0; have hR0 := fun p h => FL.cell (p := p) hF0 h; first | (go_simp; done) | (go_simp; with_reducible rfl))
        case ha1_9_2 => (go_simp; rfl)
        refine wpS_take (o := ?o2_9_2) (v := ?v2_9_2) (a' := ?aa2_9_2) ?hi2_9_2 (Or.inl ⟨?hw2_9_2, ?hy2_9_2⟩) ?ha2_9_2 ?rest2_9_2
        case hi2_9_2 => (simp [go_sem]; rfl)
        case hw2_9_2 => rfl
        case hy2_9_2 => (intro w0 hF0; have hR0 := fun p h => FL.cell (p := p) hF0 h; first | (go_simp; done) | (go_simp; with_reducible rfl))
        case ha2_9_2 => (go_simp; rfl)
        refine wpS_take (o := ?o5_9_2) (v := ?v5_9_2) (a' := ?aa5_9_2) ?hi5_9_2 (Or.inl ⟨?hw5_9_2, ?hy5_9_2⟩) ?ha5_9_2 ?rest5_9_2
        case hi5_9_2 => (simp [go_sem]; rfl)
        case hw5_9_2 => rfl
        case hy5_9_2 => (intro w0 hF0; have hR0 := fun p h => FL.cell (p := p) hF0 h; first | (go_simp; done) | (go_simp; with_reducible rfl))
        case ha5_9_2 => (go_simp; rfl)
        refine wpS_eff (o := ?o3_9_2) ?hi3_9_2 ?hw3_9_2 (by rfl) (fun K hK => ?rest3_9_2)
        case hi3_9_2 => (simp [go_sem]; rfl)
        case hw3_9_2 => rfl
        go_simp
        refine Calls.mono (HM2.out _) ?_
        rintro e w4 ⟨rfl, hbA⟩
        have st4 := FSt.next (FSt.drew HST.out) hbA
        have gr4 := rGrow.kept stays_rRat HGR.out (Below.drew (Below.refl _ _) |>.trans hbA)
        clear s0 s1 s2 s3 s4 z0 z1 z2 z3 z4 y0 y1 y2 y3 y4
        go_simp
        refine hK _ _ (FL.of_below hbA) ?_
        clear hK K
        refine wpS_eff (o := ?o4_9_2) ?hi4_9_2 ?hw4_9_2 (by rfl) (fun K hK => ?rest4_9_2)
        case hi4_9_2 => (simp [go_sem]; rfl)
        case hw4_9_2 => rfl
        go_simp
        refine Calls.mono (HP2.out _) ?_
        rintro e w5 ⟨rfl, hbB⟩
        have st5 := st4.next hbB
        have gr5 := gr4.kept stays_rRat hbB
        go_simp
        refine hK _ _ (FL.of_below hbB) ?_
        clear hK K
        refine wpS_eff (o := ?o6_9_2) ?hi6_9_2 ?hw6_9_2 (by rfl) (fun K hK => ?rest6_9_2)
        case hi6_9_2 => (simp [go_sem]; rfl)
        case hw6_9_2 => rfl
        go_simp
        refine Calls.mono (HM3.out _) ?_
        rintro e w6 ⟨rfl, hbC⟩
        have st6 := st5.next hbC
        have gr6 := gr5.kept stays_rRat hbC
        clear st4 st5 gr4 gr5
        go_simp
        refine hK _ _ (FL.of_below hbC) ?_
        clear hK K
        refine wpS_eff (o := ?o7_9_2) ?hi7_9_2 ?hw7_9_2 (by rfl) (fun K hK => ?rest7_9_2)
        case hi7_9_2 => (simp [go_sem]; rfl)
        case hw7_9_2 => rfl
        go_simp
        refine hK _ _ (FL.alloc _ _) ?_
        clear hK K
        refine wpS_tail 8 (fun j hj => by simp; omega) ?_
        simp only [List.drop_succ_cons, List.drop_zero]
        have hg2 := gr6.kept stays_rRat ((Below.refl _ _).alloc (Nat.le_refl _) (.cells #[.bool rk.neg, .string rk.num, .string rk.den] 25))
        have st7 := hid (st6.alloc (.cells #[.bool rk.neg, .string rk.num, .string rk.den] 25))
        have hsz6 := Blk3.lt st6.2.1
        have hsz7 := st6.2.2.2.2.size
        clear gr6 st6
        go_wp2_with (at_builtin; refine wpList_push _ rfl _ _ 27 rfl stays_rRat (w1.heap.size + 1 + 1) 25 3 40 _ Tryd.underlying27 Tryd.infoRat rfl (by omega) _ ds rfl hg2 ?hbase ?hbytes ?h63 w6.heap.size 1 [.bool rk.neg, .string rk.num, .string rk.den] rfl rfl ?hb rfl rk (rRat_new _ _ _ HS.out) ?_)
        case hbase => simp; omega
        case hbytes => have := HL.out; omega
        case h63 => have := HL.out; omega
        case hb => exact ⟨(0, 0), heap_alloc_new _ _⟩
        intro v' w' hg' hgr hbel'
        rw [HTM.out, ← E9.out] at hg'
        have st8 := st7.out.grown hbel' (by omega) (by omega)
        rw [← E7.out] at st8
        clear hg2 hbel' hgr
        go_wp2
        go_roundw
        case rel => exact ⟨k + 1, hlt, by go_num, st8, hg'⟩
        case measure => simp [intOf]; omega
    · have hR := hid (hg.slice stays_rRat)
      have hk' : k = l.length := by omega
      have e : ((gR (qOf W) (qL l)).take k).map enc = (gR (qOf W) (qL l)).map enc := by rw [List.take_of_length_le (by rw [gR_len, qL_len]; omega)]
      rw [e] at hR
      have HB := hid hst.2.2.2.2
      clear e hk' hst hg
      go_wp2
      go_ret
      exact ⟨_, rfl, hR.out, HB.out⟩

end Go.Proofs.YtgmedcncbpdimaaDoor
end
section
/- insolvencyref17.Rates: walked. -/
namespace Go.Proofs.YtgmedcncbpdimaaDoor
open Go.RowKit
attribute [local go_sem ↓] Go.wp_at_zero Go.wp_at_succ

theorem BS.grown {w0 w w' : World} {L : List (Nat × GRat)} (h : BS w0 w L) {B : Nat} (hb : Below B w w') (hB : ∀ e ∈ L, e.1 < B) (hw : w0.heap.size ≤ B) : BS w0 w' L :=
  ⟨h.1.trans (hb.mono hw), fun p hp => ⟨(h.2.1 p hp).1, Blk3.below (h.2.1 p hp).2 hb (hB p hp)⟩, h.2.2⟩
theorem gQ_take (W : Rat) (l s : List Rat) (k : Nat) (h : k < l.length) : (gQ W l s).take k ++ [gV W l s (k + 1) - gV W l s k] = (gQ W l s).take (k + 1) := by
  have h1 : k < (gQ W l s).length := by rw [gQ_len]; exact h
  rw [List.take_succ_eq_append_getElem h1]
  congr 2
  simp [gQ]

theorem rGrow.putO {w : World} {v : Value} {base b : Nat} {l : List GRat} (h : rGrow 25 3 rRat base w v l) (hb : v.ownBlock ≠ some b) (a : GRat) : rGrow 25 3 rRat base (put3 w b a) v l := by
  obtain ⟨xs, h1, h2⟩ := h
  refine ⟨xs, ?_, fun j hj => ?_⟩
  · exact ownsRow_setCell_other (ownsRow_setCell_other (ownsRow_setCell_other h1 (a := ⟨b, 0, none⟩) hb _) (a := ⟨b, 1, none⟩) hb _) (a := ⟨b, 2, none⟩) hb _
  · exact h2 j hj
theorem rGrow.beside {α : Type} {E sz : Nat} {R : CRep α} {base : Nat} {w : World} {v : Value} {l : List α} (h : rGrow E sz R base w v l) {b : Nat} (hb : w.heap.size ≤ b) : v.ownBlock ≠ some b := fun e => by
  have := (h.lt b e).2
  omega
theorem Bx.grown {w w' : World} {b : Nat} {r : GRat} {row : Option Nat} (h : Bx w b r) (hg : w.grownBy w' row) (hr : row ≠ some b) : Bx w' b r := by
  unfold Bx Blk3 at *
  rw [hg.block b (Blk3.lt h) (fun e => hr e.symm)]; exact h

/-- Four boxes of the call. -/
def PSt (w wr : World) (b : Nat) (p s t o : GRat) : Prop := BS w wr [(b + 1 + 1 + 1, o), (b + 1 + 1, t), (b + 1, s), (b, p)]
section
variable {w wr : World} {b : Nat} {p s t o : GRat}
theorem PSt.next {w' : World} (h : PSt w wr b p s t o) (hb : Below wr.heap.size wr w') : PSt w w' b p s t o := BS.next h hb
theorem PSt.drew (h : PSt w wr b p s t o) : PSt w wr.drew b p s t o := BS.drew h
theorem PSt.alloc (h : PSt w wr b p s t o) (x : Obj) : PSt w (wr.alloc x) b p s t o := BS.alloc h x
theorem PSt.putS (h : PSt w wr b p s t o) (a : GRat) : PSt w (put3 wr (b + 1) a) b p a t o := BS.put h 2 rfl a
theorem PSt.putT (h : PSt w wr b p s t o) (a : GRat) : PSt w (put3 wr (b + 1 + 1) a) b p s a o := BS.put h 1 rfl a
theorem PSt.putO (h : PSt w wr b p s t o) (a : GRat) : PSt w (put3 wr (b + 1 + 1 + 1) a) b p s t a := BS.put h 0 rfl a
theorem PSt.lt (h : PSt w wr b p s t o) : b + 1 + 1 + 1 < wr.heap.size := BS.lt h (p := (b + 1 + 1 + 1, o)) (by simp)
theorem PSt.ge (h : PSt w wr b p s t o) : w.heap.size ≤ b := BS.ge h 3 rfl
theorem PSt.putG (h : PSt w wr b p s t o) {g : Nat} (hg : b + 1 + 1 + 1 < g) (a : GRat) : PSt w (put3 wr g a) b p s t o :=
  BS.putG h (by have := h.ge; omega) (by intro e he; simp at he; rcases he with rfl | rfl | rfl | rfl <;> (dsimp only; omega))
theorem PSt.grown (h : PSt w wr b p s t o) {B : Nat} {w' : World} (hb : Below B wr w') (hB : b + 1 + 1 + 1 < B) : PSt w w' b p s t o :=
  BS.grown h hb (by intro e he; simp at he; rcases he with rfl | rfl | rfl | rfl <;> (dsimp only; omega)) (by have := h.ge; omega)
end

set_option maxRecDepth 100000 in
set_option maxHeartbeats 8000000 in
theorem rRates_any (W : GRat) (v u : Value) (l t : List GRat) (m : Nat) (w : World) (hm : m ≤ 1000) (hm0 : 0 < m) (hW : sB m W) (hl : l.length ≤ 1000) (hs : ∀ r ∈ l, sB m r) (ht : ∀ r ∈ t, sB m r) (hv : RL w v l) (hu : RL w u t) :
    Calls Tryd.prog 24 #[vRat W, v, u] w fun e w' => ∃ u, e = .returned u ∧ RL w' u ((gQ (qOf W) (qL l) (qL t)).map enc) ∧ Below w.heap.size w w' := by
  obtain ⟨a, cap, rfl, h1, h2⟩ := hv.open
  obtain ⟨ta, tc, rfl, t1, t2⟩ := hu.open
  have HSB := hid hs
  have HTB := hid ht
  have HQ := hid (qL_qB hs hm0)
  have HQT := hid (qL_qB ht hm0)
  have HPW := hid (fun w => amount_any W m w hW (by omega))
  have qpW := qpos_qB (hW.qB hm0)
  obtain ⟨pW, hpW⟩ : ∃ pW, pW = enc (qpos (qOf W)) := ⟨_, rfl⟩
  rw [← hpW] at HPW
  have HPEW := hid hpW
  have HQPW := hid qpW
  unfold vRat at HPW
  clear hs ht hW hv hu hpW qpW
  unfold vRat
  go_enter Tryd.func24, Tryd.ntmps24
  go_wp2_with fail
  refine Calls.mono (HPW.out _) ?_
  rintro e w1 ⟨rfl, hb1⟩
  have hb0 : Below w.heap.size w w1 := Below.step ((Below.refl w.heap.size w).alloc (Nat.le_refl _) _) hb1
  have HB0 := hid hb0
  have hsz := hb0.size
  clear hb1 hb0 HPW
  go_wp2
  go_loopw [8, 12, 13] (fun p i _ wr => ∃ k : Nat, k ≤ l.length ∧ i = .int .i64 k ∧ PSt w wr w1.heap.size pW (enc (gS (qL l) k)) (enc (gS (qL t) k)) (enc (gV (qOf W) (qL l) (qL t) k)) ∧ rGrow 25 3 rRat (w1.heap.size + 1 + 1 + 1 + 1) wr p (((gQ (qOf W) (qL l) (qL t)).take k).map enc)) (fun _ i _ _ => l.length - (intOf i).toNat)
  case atStart =>
    refine ⟨0, Nat.zero_le _, rfl, ?_, rGrow.nil _ _ _ _ _⟩
    rw [show gV (qOf W) (qL l) (qL t) 0 = 0 from rfl, show gS (qL l) 0 = 0 from rfl, show gS (qL t) 0 = 0 from rfl, ← gZ_enc]
    have r0 : BS w w1 [] := (BS.nil w).next HB0.out
    have r0 := r0.push pW
    have b1 := r0.push' (b := w1.heap.size + 1) (by simp) gZ
    have b2 := b1.push' (b := w1.heap.size + 1 + 1) (by simp) gZ
    have b3 := b2.push' (b := w1.heap.size + 1 + 1 + 1) (by simp) gZ
    exact b3
  case round =>
    obtain ⟨k, hk, rfl, hst, hg⟩ := hrel
    by_cases hlt : k < l.length
    · rcases h2 with rfl | ⟨b, off, rfl, hbb, h3⟩
      · simp at hlt
      obtain ⟨g0, g1, g2, g3⟩ := h3 k hlt
      have hkb : k ≤ 1000 := by omega
      have hmk1 : m * (k + 1) ≤ 1000 * 1001 := Nat.mul_le_mul hm (by omega)
      have hmk2 : m * (k + 1 + 1) ≤ 1000 * 1002 := Nat.mul_le_mul hm (by omega)
      have qx : qB m (qOf l[k]) := (HSB.out _ (List.getElem_mem hlt)).qB hm0
      have q1 : qB 2000000 (gS (qL l) k) := (gS_qB HQ.out hm0 k).mono (by omega)
      have q2 : qB 2000000 (gS (qL l) (k + 1)) := (gS_qB HQ.out hm0 (k + 1)).mono (by omega)
      have q3 : qB 2000000 (gS (qL t) k) := (gS_qB HQT.out hm0 k).mono (by omega)
      have q4 : qB 2000000 (gV (qOf W) (qL l) (qL t) k) := (gV_qB HQT.out hm0 k).mono (by omega)
      have q5 : qB 2000000 (gV (qOf W) (qL l) (qL t) (k + 1)) := (gV_qB HQT.out hm0 (k + 1)).mono (by omega)
      have q7 : qB 10000000 (gV (qOf W) (qL l) (qL t) (k + 1) - gV (qOf W) (qL l) (qL t) k) := (q5.sub q4).mono (by decide)
      have eS : gS (qL l) (k + 1) = gS (qL l) k + qpos (qOf l[k]) := by rw [gS_step, qL_get _ _ hlt]
      have HPX := hid (fun w => amount_any l[k] m w (HSB.out _ (List.getElem_mem hlt)) (by omega))
      have HAD := hid (fun w => rPlus_any (gS (qL l) k) (qpos (qOf l[k])) 2000000 m w q1 (qpos_qB qx) (by decide) (by omega))
      rw [← eS] at HAD
      have HCM := hid (fun w => rLess_any (gS (qL l) (k + 1)) (qpos (qOf W)) 2000000 m w q2 HQPW.out (by decide) (by omega))
      rw [← HPEW.out] at HCM
      have HSU := hid (fun w => rMinus_any (gV (qOf W) (qL l) (qL t) (k + 1)) (gV (qOf W) (qL l) (qL t) k) 2000000 2000000 w q5 q4 (by decide) (by decide))
      have HT := hid (gQ_take (qOf W) (qL l) (qL t) k (by rw [qL_len]; exact hlt))
      have HS := hid (sB_max (sB_enc q7) (by decide))
      have HTM := hid (show ((gQ (qOf W) (qL l) (qL t)).take k).map enc ++ [enc (gV (qOf W) (qL l) (qL t) (k + 1) - gV (qOf W) (qL l) (qL t) k)] = ((gQ (qOf W) (qL l) (qL t)).take (k + 1)).map enc by rw [← HT.out, List.map_append]; rfl)
      have HL := hid (show (((gQ (qOf W) (qL l) (qL t)).take k).map enc).length ≤ 1000 by simp; omega)
      have HT1 := hid (fun (hkt : k < t.length) => (⟨by rw [gS_step, qL_get _ _ hkt], HTB.out _ (List.getElem_mem hkt)⟩ : gS (qL t) (k + 1) = gS (qL t) k + qpos (qOf t[k]) ∧ sB m t[k]))
      have HT2 := hid (fun (hkt : ¬ k < t.length) => gS_over (qL t) (k := k) (by rw [qL_len]; omega))
      have HT3 := hid (fun (r : GRat) (hr : sB m r) (w : World) => rPlus_any (gS (qL t) k) (qpos (qOf r)) 2000000 m w q3 (qpos_qB (hr.qB hm0)) (by decide) (by omega))
      have HV1 := hid (fun (h : gS (qL l) (k + 1) < qpos (qOf W)) => (⟨by simpa using h, by simp only [gV]; rw [if_pos h]; exact gZ_enc⟩ : decide (gS (qL l) (k + 1) < qpos (qOf W)) = true ∧ gZ = enc (gV (qOf W) (qL l) (qL t) (k + 1))))
      have HV2 := hid (fun (h : ¬ gS (qL l) (k + 1) < qpos (qOf W)) => (⟨by simpa using h, by simp only [gV]; rw [if_neg h]⟩ : decide (gS (qL l) (k + 1) < qpos (qOf W)) = false ∧ gS (qL t) (k + 1) = gV (qOf W) (qL l) (qL t) (k + 1)))
      obtain ⟨x, hx⟩ : ∃ x, x = l[k] := ⟨_, rfl⟩
      rw [← hx] at g0 g1 g2 HPX HAD
      clear HT
      generalize e9 : ((gQ (qOf W) (qL l) (qL t)).take (k + 1)).map enc = ds' at *
      have E9 := hid e9
      clear e9
      generalize ((gQ (qOf W) (qL l) (qL t)).take k).map enc = ds at *
      generalize enc (gV (qOf W) (qL l) (qL t) (k + 1) - gV (qOf W) (qL l) (qL t) k) = rk at *
      generalize e8 : enc (gV (qOf W) (qL l) (qL t) (k + 1)) = ov at *
      have E8 := hid e8
      clear e8
      generalize enc (gV (qOf W) (qL l) (qL t) k) = bf at *
      obtain ⟨cm, hcm⟩ : ∃ cm, cm = decide (gS (qL l) (k + 1) < qpos (qOf W)) := ⟨_, rfl⟩
      rw [← hcm] at HCM HV1 HV2
      generalize e7 : enc (gS (qL l) (k + 1)) = sm' at *
      have E7 := hid e7
      clear e7
      generalize enc (gS (qL l) k) = sm at *
      generalize enc (qpos (qOf x)) = px at *
      have HG := hid hg
      have HST := hid hst
      have hgb := hst.lt
      have HC := hid (fun (W : World) (h : Below w.heap.size w W) => (⟨(h.cell (p := ⟨b, off + k * 3, none⟩) hbb).trans g0, (h.cell (p := ⟨b, off + k * 3 + 1, none⟩) hbb).trans g1, (h.cell (p := ⟨b, off + k * 3 + 2, none⟩) hbb).trans g2⟩ : C3 W b (off + k * 3) x))
      obtain ⟨s0, s1, s2, s3, s4⟩ := (BS.box hst 2 rfl).facts
      have hb3 : (0 : Int) ≤ (k : Int) := by omega
      have hb4 : (k : Int) < (l.length : Int) := by omega
      unfold vRat at HPX HAD HSU HCM HT3
      obtain ⟨c0, c1, c2⟩ := HC.out _ hst.1
      clear hx g3 h3 g0 g1 g2 hmk1 hmk2 qx q1 q2 q3 q4 q5 q7 eS hst hg hcm
      go_upto_region 9 with fail
      go_cut [] (fun wx => PSt w wx w1.heap.size pW sm' (enc (gS (qL t) k)) bf ∧ rGrow 25 3 rRat (w1.heap.size + 1 + 1 + 1 + 1) wx u8 ds)
      case first =>
        refine wp_region_sched (by kernel_rfl) [(0, true), (1, true), (2, true), (3, true), (4, true), (5, false), (6, false), (7, false)] (fun i => decide (i < 7)) (by kernel_rfl) (fun _ _ d _ _ h => by cases d <;> exact h) ?_
        refine wpS_take (o := ?o0_9_1) (v := ?v0_9_1) (a' := ?aa0_9_1) ?hi0_9_1 (Or.inl ⟨?hw0_9_1, ?hy0_9_1⟩) ?ha0_9_1 ?rest0_9_1
        case hi0_9_1 => (simp [go_sem]; rfl)
        case hw0_9_1 => rfl
        case hy0_9_1 => (intro w0 hF0; have hR0 := fun p h => FL.cell (p := p) hF0 h; first | (go_simp; done) | (go_simp; with_reducible rfl))
        case ha0_9_1 => (go_simp; rfl)
        refine wpS_take (o := ?o1_9_1) (v := ?v1_9_1) (a' := ?aa1_9_1) ?hi1_9_1 (Or.inl ⟨?hw1_9_1, ?hy1_9_1⟩) ?ha1_9_1 ?rest1_9_1
        case hi1_9_1 => (simp [go_sem]; rfl)
        case hw1_9_1 => rfl
        case hy1_9_1 => (intro w0 hF0; clear hF0; first | (go_simp; done) | (go_simp; with_reducible rfl))
        case ha1_9_1 => (go_simp; rfl)
        refine wpS_take (o := ?o2_9_1) (v := ?v2_9_1) (a' := ?aa2_9_1) ?hi2_9_1 (Or.inl ⟨?hw2_9_1, ?hy2_9_1⟩) ?ha2_9_1 ?rest2_9_1
        case hi2_9_1 => (simp [go_sem]; rfl)
        case hw2_9_1 => rfl
        case hy2_9_1 => (intro w0 hF0; clear hF0; first | (go_simp; done) | (go_simp; with_reducible rfl))
        case ha2_9_1 => (go_simp; rfl)
        refine wpS_take (o := ?o3_9_1) (v := ?v3_9_1) (a' := ?aa3_9_1) ?hi3_9_1 (Or.inl ⟨?hw3_9_1, ?hy3_9_1⟩) ?ha3_9_1 ?rest3_9_1
        case hi3_9_1 => (simp [go_sem]; rfl)
        case hw3_9_1 => rfl
        case hy3_9_1 => (intro w0 hF0; clear hF0; first | (go_simp; done) | (go_simp; with_reducible rfl))
        case ha3_9_1 => (go_simp; rfl)
        refine wpS_take (o := ?o4_9_1) (v := ?v4_9_1) (a' := ?aa4_9_1) ?hi4_9_1 (Or.inl ⟨?hw4_9_1, ?hy4_9_1⟩) ?ha4_9_1 ?rest4_9_1
        case hi4_9_1 => (simp [go_sem]; rfl)
        case hw4_9_1 => rfl
        case hy4_9_1 => (intro w0 hF0; have hR0 := fun p h => FL.cell (p := p) hF0 h; first | (go_simp; done) | (go_simp; with_reducible rfl))
        case ha4_9_1 => (go_simp; rfl)
        refine wpS_eff (o := ?o5_9_1) ?hi5_9_1 ?hw5_9_1 (by rfl) (fun K hK => ?rest5_9_1)
        case hi5_9_1 => (simp [go_sem]; rfl)
        case hw5_9_1 => rfl
        go_simp
        refine Calls.mono (HPX.out _) ?_
        rintro e w4 ⟨rfl, hbA⟩
        have st4 := PSt.next (PSt.drew HST.out) hbA
        have gr4 := rGrow.kept stays_rRat HG.out (Below.drew (Below.refl _ _) |>.trans hbA)
        clear s0 s1 s2 s3 s4 c0 c1 c2
        go_simp
        refine hK _ _ (FL.of_below hbA) ?_
        clear hK K
        refine wpS_eff (o := ?o6_9_1) ?hi6_9_1 ?hw6_9_1 (by rfl) (fun K hK => ?rest6_9_1)
        case hi6_9_1 => (simp [go_sem]; rfl)
        case hw6_9_1 => rfl
        go_simp
        refine Calls.mono (HAD.out _) ?_
        rintro e w5 ⟨rfl, hbB⟩
        have st5 := st4.next hbB
        have gr5 := gr4.kept stays_rRat hbB
        obtain ⟨s0, s1, s2, s3, s4⟩ := (BS.box st5 2 rfl).facts
        go_simp
        refine hK _ _ (FL.of_below hbB) ?_
        clear hK K
        refine wpS_tail 7 (fun j hj => by simp; omega) ?_
        simp only [List.drop_succ_cons, List.drop_zero]
        go_wp2
        go_meet
        exact ⟨st5.putS sm', gr5.put (by omega) sm'⟩
      case rest =>
        clear s0 s1 s2 s3 s4 c0 c1 c2 HPX HAD HST HC HG
        obtain ⟨hst, hgr⟩ := hcut
        have HST := hid hst
        have HGR := hid hgr
        have hgb := hst.lt
        clear hst hgr
        go_upto_if 35 with fail
        go_cut [] (fun wx => PSt w wx w1.heap.size pW sm' (enc (gS (qL t) (k + 1))) bf ∧ rGrow 25 3 rRat (w1.heap.size + 1 + 1 + 1 + 1) wx u8 ds)
        case first =>
          by_cases hkt : k < t.length
          · rcases t2 with rfl | ⟨b, off, rfl, hbb, h3⟩
            · simp at hkt
            obtain ⟨g0, g1, g2, g3⟩ := h3 k hkt
            have HX := HT1.out hkt
            have HPX := hid (fun w => amount_any t[k] m w HX.2 (by omega))
            have HAD := hid (HT3.out _ HX.2)
            rw [← HX.1] at HAD
            obtain ⟨x, hx⟩ : ∃ x, x = t[k] := ⟨_, rfl⟩
            rw [← hx] at g0 g1 g2 HPX HAD
            generalize enc (gS (qL t) (k + 1)) = tm' at *
            generalize enc (gS (qL t) k) = tm at *
            generalize enc (qpos (qOf x)) = px at *
            unfold vRat at HPX
            have hb5 : (k : Int) < (t.length : Int) := by omega
            have c0 := (HST.out.1.cell (p := ⟨b, off + k * 3, none⟩) hbb).trans g0
            have c1 := (HST.out.1.cell (p := ⟨b, off + k * 3 + 1, none⟩) hbb).trans g1
            have c2 := (HST.out.1.cell (p := ⟨b, off + k * 3 + 2, none⟩) hbb).trans g2
            obtain ⟨s0, s1, s2, s3, s4⟩ := (BS.box HST.out 1 rfl).facts
            clear HX HT1 HT2 HT3 HV1 HV2 h3 g0 g1 g2 g3 hx HCM HSU
            go_wp2_with fail
            refine wp_region_sched (by kernel_rfl) [(0, true), (1, true), (2, true), (3, true), (4, true), (5, false), (6, false), (7, false)] (fun i => decide (i < 7)) (by kernel_rfl) (fun _ _ d _ _ h => by cases d <;> exact h) ?_
            refine wpS_take (o := ?o0_11_2) (v := ?v0_11_2) (a' := ?aa0_11_2) ?hi0_11_2 (Or.inl ⟨?hw0_11_2, ?hy0_11_2⟩) ?ha0_11_2 ?rest0_11_2
            case hi0_11_2 => (simp [go_sem]; rfl)
            case hw0_11_2 => rfl
            case hy0_11_2 => (intro w0 hF0; have hR0 := fun p h => FL.cell (p := p) hF0 h; first | (go_simp; done) | (go_simp; with_reducible rfl))
            case ha0_11_2 => (go_simp; rfl)
            refine wpS_take (o := ?o1_11_2) (v := ?v1_11_2) (a' := ?aa1_11_2) ?hi1_11_2 (Or.inl ⟨?hw1_11_2, ?hy1_11_2⟩) ?ha1_11_2 ?rest1_11_2
            case hi1_11_2 => (simp [go_sem]; rfl)
            case hw1_11_2 => rfl
            case hy1_11_2 => (intro w0 hF0; clear hF0; first | (go_simp; done) | (go_simp; with_reducible rfl))
            case ha1_11_2 => (go_simp; rfl)
            refine wpS_take (o := ?o2_11_2) (v := ?v2_11_2) (a' := ?aa2_11_2) ?hi2_11_2 (Or.inl ⟨?hw2_11_2, ?hy2_11_2⟩) ?ha2_11_2 ?rest2_11_2
            case hi2_11_2 => (simp [go_sem]; rfl)
            case hw2_11_2 => rfl
            case hy2_11_2 => (intro w0 hF0; clear hF0; first | (go_simp; done) | (go_simp; with_reducible rfl))
            case ha2_11_2 => (go_simp; rfl)
            refine wpS_take (o := ?o3_11_2) (v := ?v3_11_2) (a' := ?aa3_11_2) ?hi3_11_2 (Or.inl ⟨?hw3_11_2, ?hy3_11_2⟩) ?ha3_11_2 ?rest3_11_2
            case hi3_11_2 => (simp [go_sem]; rfl)
            case hw3_11_2 => rfl
            case hy3_11_2 => (intro w0 hF0; clear hF0; first | (go_simp; done) | (go_simp; with_reducible rfl))
            case ha3_11_2 => (go_simp; rfl)
            refine wpS_take (o := ?o4_11_2) (v := ?v4_11_2) (a' := ?aa4_11_2) ?hi4_11_2 (Or.inl ⟨?hw4_11_2, ?hy4_11_2⟩) ?ha4_11_2 ?rest4_11_2
            case hi4_11_2 => (simp [go_sem]; rfl)
            case hw4_11_2 => rfl
            case hy4_11_2 => (intro w0 hF0; have hR0 := fun p h => FL.cell (p := p) hF0 h; first | (go_simp; done) | (go_simp; with_reducible rfl))
            case ha4_11_2 => (go_simp; rfl)
            refine wpS_eff (o := ?o5_11_2) ?hi5_11_2 ?hw5_11_2 (by rfl) (fun K hK => ?rest5_11_2)
            case hi5_11_2 => (simp [go_sem]; rfl)
            case hw5_11_2 => rfl
            go_simp
            refine Calls.mono (HPX.out _) ?_
            rintro e w4 ⟨rfl, hb6⟩
            have st1 := PSt.next (PSt.drew HST.out) hb6
            have gr4 := rGrow.kept stays_rRat HGR.out (Below.drew (Below.refl _ _) |>.trans hb6)
            clear s0 s1 s2 s3 s4 c0 c1 c2
            go_simp
            refine hK _ _ (FL.of_below hb6) ?_
            clear hK K
            refine wpS_eff (o := ?o6_11_2) ?hi6_11_2 ?hw6_11_2 (by rfl) (fun K hK => ?rest6_11_2)
            case hi6_11_2 => (simp [go_sem]; rfl)
            case hw6_11_2 => rfl
            go_simp
            refine Calls.mono (HAD.out _) ?_
            rintro e w5 ⟨rfl, hb7⟩
            have st2 := st1.next hb7
            have gr5 := gr4.kept stays_rRat hb7
            obtain ⟨s0, s1, s2, s3, s4⟩ := (BS.box st2 1 rfl).facts
            go_simp
            refine hK _ _ (FL.of_below hb7) ?_
            clear hK K
            refine wpS_tail 7 (fun j hj => by simp; omega) ?_
            simp only [List.drop_succ_cons, List.drop_zero]
            go_wp2
            go_meet
            exact ⟨st2.putT tm', gr5.put (by omega) tm'⟩
          · have e5 := hid (HT2.out hkt)
            have hb5 : decide ((k : Int) < (t.length : Int)) = false := by simp; omega
            clear HT1 HT2 HT3 HV1 HV2 HCM HSU
            go_wp2
            go_meet
            rw [e5.out]
            exact ⟨HST.out, HGR.out⟩
        case rest =>
          clear HT1 HT2 HT3 HST HGR
          obtain ⟨hst, hgr⟩ := hcut
          have hbox := (Below.refl wc.heap.size wc).alloc (Nat.le_refl _) (.cells #[.bool gZ.neg, .string gZ.num, .string gZ.den] 25)
          have HST := hid (hst.next hbox)
          have HGR := hid (hgr.kept stays_rRat hbox)
          have hbx := hid (Bx.new wc gZ)
          have hgl2 := hst.lt
          have hown := hid (hgr.beside (Nat.le_refl _))
          obtain ⟨W0, hW0⟩ : ∃ W0, W0 = wc.alloc (.cells #[.bool gZ.neg, .string gZ.num, .string gZ.den] 25) := ⟨_, rfl⟩
          rw [← hW0] at HST hbx HGR
          obtain ⟨s0, s1, s2, s3, s4⟩ := (BS.box HST.out 2 rfl).facts
          obtain ⟨z0, z1, z2, z3, z4⟩ := (BS.box HST.out 3 rfl).facts
          have HW0 := hid hW0
          clear hst hgr hbox hW0
          go_upto_region 13 with fail
          change Code.wp _ _ _ _ (wc.alloc (.cells #[.bool gZ.neg, .string gZ.num, .string gZ.den] 25))
          rw [← HW0.out]
          clear HW0
          go_wp2_with fail
          refine Calls.mono (HCM.out _) ?_
          rintro e w2 ⟨rfl, hb2⟩
          have HST2 := hid (HST.out.next hb2)
          have HBX := hid (hbx.out.below hb2)
          have HGR2 := hid (HGR.out.kept stays_rRat hb2)
          clear HCM HST hbx HGR hb2 s0 s1 s2 s3 s4 z0 z1 z2 z3 z4
          go_upto_if 47 with fail
          go_cut [] (fun wx => PSt w wx w1.heap.size pW sm' (enc (gS (qL t) (k + 1))) bf ∧ Bx wx wc.heap.size ov ∧ rGrow 25 3 rRat (w1.heap.size + 1 + 1 + 1 + 1) wx u8 ds)
          case first =>
            by_cases hlw : gS (qL l) (k + 1) < qpos (qOf W)
            · obtain ⟨d1, d2⟩ := HV1.out hlw
              have D2 := hid d2
              subst d1
              clear HV1 HV2 hlw d2
              go_wp2
              go_meet
              exact ⟨HST2.out, by rw [← D2.out]; exact HBX.out, HGR2.out⟩
            · obtain ⟨d1, d2⟩ := HV2.out hlw
              obtain ⟨s0, s1, s2, s3, s4⟩ := (BS.box HST2.out 1 rfl).facts
              obtain ⟨z0, z1, z2, z3, z4⟩ := HBX.out.facts
              have D4 := hid (show enc (gS (qL t) (k + 1)) = ov by rw [d2, E8.out])
              subst d1
              clear HV1 HV2 hlw d2
              rw [D4.out] at s0 s1 s2 HST2
              go_wp2
              go_meet
              rw [D4.out]
              exact ⟨HST2.out.putG (by omega) _, HBX.out.put _, HGR2.out.putO hown.out _⟩
          case rest =>
            clear HST2 HBX HGR2 HV1 HV2
            obtain ⟨hst, hbx, hgr⟩ := hcut
            have HST := hid hst
            have HBX := hid hbx
            have HGR := hid hgr
            obtain ⟨s0, s1, s2, s3, s4⟩ := hbx.facts
            obtain ⟨z0, z1, z2, z3, z4⟩ := (BS.box hst 0 rfl).facts
            clear hst hbx hgr
            go_wp2_with fail
            refine Calls.mono (HSU.out _) ?_
            rintro e w6 ⟨rfl, hb6⟩
            have st6 := HST.out.next hb6
            have bx6 := HBX.out.below hb6
            have gr6 := HGR.out.kept stays_rRat hb6
            clear s0 s1 s2 s3 s4 z0 z1 z2 z3 z4 HST HBX HGR
            have hbox := (Below.refl w6.heap.size w6).alloc (Nat.le_refl _) (.cells #[.bool rk.neg, .string rk.num, .string rk.den] 25)
            have hg2 := gr6.kept stays_rRat hbox
            have st7 := hid (st6.next hbox)
            have bx7 := hid (bx6.below hbox)
            have hsz6 := st6.lt
            clear gr6 st6 bx6 hbox
            go_wp2_with (at_builtin; refine wpList_push _ rfl _ _ 27 rfl stays_rRat (w1.heap.size + 1 + 1 + 1 + 1) 25 3 40 _ Tryd.underlying27 Tryd.infoRat rfl (by omega) _ ds rfl hg2 ?hbase ?hbytes ?h63 w6.heap.size 1 [.bool rk.neg, .string rk.num, .string rk.den] rfl rfl ?hb rfl rk (rRat_new _ _ _ HS.out) ?_)
            case hbase => simp; omega
            case hbytes => have := HL.out; omega
            case h63 => have := HL.out; omega
            case hb => exact ⟨(0, 0), heap_alloc_new _ _⟩
            intro v' w' hg' hgr hbel'
            rw [HTM.out, ← E9.out] at hg'
            have st8 := st7.out.grown hbel' (by omega)
            have bx8 := bx7.out.grown hgr hown.out
            rw [← E7.out] at st8
            have HG8 := hid hg'
            have HS8 := hid st8
            obtain ⟨s0, s1, s2, s3, s4⟩ := bx8.facts
            obtain ⟨z0, z1, z2, z3, z4⟩ := (BS.box st8 0 rfl).facts
            clear hg2 hbel' hgr bx7 st7 hg' st8 bx8
            go_wp2
            go_roundw
            case rel => exact ⟨k + 1, hlt, by go_num, by rw [E8.out]; exact HS8.out.putO ov, HG8.out.put (by omega) ov⟩
            case measure => simp [intOf]; omega
    · have hR := hid (hg.slice stays_rRat)
      have hk' : k = l.length := by omega
      have e : ((gQ (qOf W) (qL l) (qL t)).take k).map enc = (gQ (qOf W) (qL l) (qL t)).map enc := by rw [List.take_of_length_le (by rw [gQ_len, qL_len]; omega)]
      rw [e] at hR
      have HB := hid hst.1
      clear e hk' hst hg
      go_wp2
      go_ret
      exact ⟨_, rfl, hR.out, HB.out⟩

end Go.Proofs.YtgmedcncbpdimaaDoor
end
