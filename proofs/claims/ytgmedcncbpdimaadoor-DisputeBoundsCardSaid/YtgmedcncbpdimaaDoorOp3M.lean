/- dispute.Certain; insolvencyref21.Certain: walked. -/
import Derived.Test.YtgmedcncbpdimaaDoorOp2M
import Derived.Test.YtgmedcncbpdimaaDoorCountM
import Derived.Test.YtgmedcncbpdimaaDoorGu1M
set_option linter.unusedVariables false
set_option linter.unusedSimpArgs false
section
/- dispute.Certain; insolvencyref21.Certain: walked. -/
namespace Go.Proofs.YtgmedcncbpdimaaDoor
open Go.RowKit
attribute [local go_sem ↓] Go.wp_at_zero Go.wp_at_succ

/-- What Certain has so far. -/
noncomputable def lowC (l : List GOpt) (k : Nat) : GRat := if k = 0 then gZ else enc (gLow l k)
theorem lowC_zero (l : List GOpt) : lowC l 0 = gZ := if_pos rfl
theorem lowC_succ (l : List GOpt) (k : Nat) : lowC l (k + 1) = enc (gLow l (k + 1)) := if_neg (by omega)
theorem lowC_pos (l : List GOpt) {k : Nat} (h : k ≠ 0) : lowC l k = enc (gLow l k) := if_neg h
theorem sameRank_succ {l : List GOpt} {k : Nat} (h : sameRank l k) (h1 : ork l k = ork l 0) : sameRank l (k + 1) := fun j hj => by
  rcases Nat.lt_or_ge j k with h2 | h2
  · exact h j h2
  · have : j = k := by omega
    subst this; exact h1
theorem cert_low {l : List GOpt} (h : sameRank l l.length) : enc (gCert l) = lowC l l.length := by
  by_cases hl : l.length = 0
  · rw [gCert_nil hl, hl, lowC_zero, gZ_enc]
  · rw [gCert_yes (by omega) h, lowC_pos _ hl]


set_option maxRecDepth 100000 in
set_option maxHeartbeats 8000000 in
theorem Certain_any (est cl : Int) (v : Value) (l : List GOpt) (w : World) (hf : fewOpts l = true) (hv : rSlice 4 rOpt w (LT w.heap.size) [v] l) :
    Calls Tryd.prog 32 #[.agg #[.int .i64 est, .int .i64 cl, v]] w fun e w' => e = .returned (vRat (enc (gCert l))) ∧ Below w.heap.size w w' := by
  obtain ⟨a, cap, rfl, h1, h2⟩ := opts_open hv
  have HF := hid hf
  have hn6 : l.length ≤ 6 := by unfold fewOpts at hf; simp only [Bool.and_eq_true, decide_eq_true_eq] at hf; exact hf.1
  clear hf hv
  obtain ⟨n, hn⟩ : ∃ n, n = l.length := ⟨_, rfl⟩
  rw [← hn] at h1 h2 hn6 ⊢
  have HN := hid hn
  have HNO := hid (fun (j : Nat) (hj : j < n) (h : ork l j ≠ ork l 0) => show enc (gCert l) = gZ by rw [gCert_no (by rw [← HN.out]; exact hj) h, gZ_enc])
  have HYES := hid (fun (h : sameRank l n) => show enc (gCert l) = lowC l n by rw [HN.out]; exact cert_low (by rw [← HN.out]; exact h))
  have HNIL := hid (fun (h : n = 0) => show enc (gCert l) = gZ by rw [gCert_nil (by rw [← HN.out]; exact h), gZ_enc])
  generalize enc (gCert l) = ce at *
  clear hn
  unfold vRat
  have st0 := (BK.push (BK.push (BK.push (BK.nil w) 50 [.int .i64 est, .int .i64 cl, .slice a n cap] (b := w.heap.size) (by simp)) 25 [.bool false, .string { data := #[] }, .string { data := #[] }] (b := w.heap.size + 1) (by simp)) 25 [.bool false, .string { data := #[] }, .string { data := #[] }] (b := w.heap.size + 1 + 1) (by simp))
  obtain ⟨dc, df, dl, dg⟩ := BK.cell st0 2 rfl
  have d0 := dc 0 _ rfl
  have d1 := dc 1 _ rfl
  have d2 := dc 2 _ rfl
  clear dc
  have ST0 := hid st0
  clear st0
  go_enter Tryd.func32, Tryd.ntmps32
  go_wp2
  go_loopw [4, 5, 9] (fun _ _ i wr => ∃ k : Nat, k ≤ n ∧ i = .int .i64 k ∧ Hid (sameRank l k) ∧ BK w wr [(w.heap.size + 1 + 1, 25, [.bool (lowC l k).neg, .string (lowC l k).num, .string (lowC l k).den]), (w.heap.size + 1, 25, [.bool false, .string { data := #[] }, .string { data := #[] }]), (w.heap.size, 50, [.int .i64 est, .int .i64 cl, .slice a n cap])]) (fun _ _ i _ => n - (intOf i).toNat)
  case atStart => exact ⟨0, Nat.zero_le _, rfl, fun j hj => (by omega), by rw [lowC_zero]; exact ST0.out⟩
  case round =>
    clear d0 d1 d2 df dl dg ST0
    obtain ⟨k, hk, rfl, HSR, st⟩ := hrel
    by_cases hlt : k < n
    · rcases h2 with rfl | ⟨b, off, rfl, hbb, h3⟩
      · simp [HN.out] at hlt
      have H3 := hid h3
      obtain ⟨g0, g1, g2, g3, g4, g5⟩ := H3.out k hlt
      rw [← st.1.cell (p := ⟨b, off + k * 4, none⟩) hbb] at g0
      rw [← st.1.cell (p := ⟨b, off + k * 4 + 1, none⟩) hbb] at g1
      rw [← st.1.cell (p := ⟨b, off + k * 4 + 2, none⟩) hbb] at g2
      rw [← st.1.cell (p := ⟨b, off + k * 4 + 3, none⟩) hbb] at g3
      have f3' := (H3.out 0 (by omega)).2.2.2.1
      simp only [Nat.zero_mul, Nat.add_zero] at f3'
      rw [show (l.getD k oZ).rank = ork l k from rfl] at g3
      rw [show (l.getD 0 oZ).rank = ork l 0 from rfl] at f3'
      have hb3 : (0 : Int) ≤ (k : Int) := by omega
      have hb4 : (k : Int) < (n : Int) := by omega
      have hb5 : (0 : Int) < (n : Int) := by omega
      have hn0 : 0 < n := by omega
      have sA := few_amount HF.out k
      have E1 := hid (show qOf (l.getD k oZ).amount = oq l k from rfl)
      have st1 := hid (BK.push st 54 [.bool (l.getD k oZ).amount.neg, .string (l.getD k oZ).amount.num, .string (l.getD k oZ).amount.den, .int .i64 (ork l k)] rfl)
      have f3 := (st1.out.1.cell (p := ⟨b, off + 3, none⟩) hbb).trans f3'
      obtain ⟨x, hx⟩ : ∃ x, x = (l.getD k oZ).amount := ⟨_, rfl⟩
      rw [← hx] at g0 g1 g2 st1 f3 sA E1
      obtain ⟨q0, hq0⟩ : ∃ q0, q0 = ork l 0 := ⟨_, rfl⟩
      obtain ⟨q, hq⟩ : ∃ q, q = ork l k := ⟨_, rfl⟩
      rw [← hq] at g3 st1 f3
      rw [← hq0] at f3
      have HQ0 := hid hq0
      have HQ := hid hq
      have HSA := hid sA
      clear hx hq hq0 h3 st f3' sA
      go_upto_region 5 with fail
      have st2 := st1.out
      clear st1 g0 g1 g2 g3
      obtain ⟨oc, of, ol, og⟩ := BK.cell st2 0 rfl
      have o0 := oc 0 _ rfl
      have o1 := oc 1 _ rfl
      have o2 := oc 2 _ rfl
      have o3 := oc 3 _ rfl
      clear oc
      obtain ⟨dc, df, dl, dg⟩ := BK.cell st2 3 rfl
      have d0 := dc 0 _ rfl
      have d1 := dc 1 _ rfl
      have d2 := dc 2 _ rfl
      clear dc
      by_cases hr : q = q0
      · subst hr
        have HS1 := hid (sameRank_succ HSR.out (HQ.out.symm.trans HQ0.out))
        refine wp_region_tree (by kernel_rfl) (.cons 0 true (.cons 1 true (.cons 2 true (.cons 3 true (.cons 4 true (.cons 5 true (.cons 6 true (.cons 7 true .nil)))))))) (fun _ => true) (by kernel_rfl) (fun _ _ d _ _ h => by cases d <;> exact h) ?_
        refine wpT_take (o := ?o_5_3_1) (v := ?v_5_3_1) (a' := ?aa_5_3_1) ?hi_5_3_1 (Or.inl ⟨?hw_5_3_1, ?hy_5_3_1⟩) ?ha_5_3_1 ?rest_5_3_1
        case hi_5_3_1 => (simp [go_sem]; rfl)
        case hw_5_3_1 => rfl
        case hy_5_3_1 => (intro w0 hF0; clear hF0; first | (go_simp; done) | (go_simp; with_reducible rfl))
        case ha_5_3_1 => (go_simp; rfl)
        refine wpT_take (o := ?o_5_3_2) (v := ?v_5_3_2) (a' := ?aa_5_3_2) ?hi_5_3_2 (Or.inl ⟨?hw_5_3_2, ?hy_5_3_2⟩) ?ha_5_3_2 ?rest_5_3_2
        case hi_5_3_2 => (simp [go_sem]; rfl)
        case hw_5_3_2 => rfl
        case hy_5_3_2 => (intro w0 hF0; have hR0 := fun p h => FL.cell (p := p) hF0 h; first | (go_simp; done) | (go_simp; with_reducible rfl))
        case ha_5_3_2 => (go_simp; rfl)
        refine wpT_take (o := ?o_5_3_3) (v := ?v_5_3_3) (a' := ?aa_5_3_3) ?hi_5_3_3 (Or.inl ⟨?hw_5_3_3, ?hy_5_3_3⟩) ?ha_5_3_3 ?rest_5_3_3
        case hi_5_3_3 => (simp [go_sem]; rfl)
        case hw_5_3_3 => rfl
        case hy_5_3_3 => (intro w0 hF0; clear hF0; first | (go_simp; done) | (go_simp; with_reducible rfl))
        case ha_5_3_3 => (go_simp; rfl)
        refine wpT_take (o := ?o_5_3_4) (v := ?v_5_3_4) (a' := ?aa_5_3_4) ?hi_5_3_4 (Or.inl ⟨?hw_5_3_4, ?hy_5_3_4⟩) ?ha_5_3_4 ?rest_5_3_4
        case hi_5_3_4 => (simp [go_sem]; rfl)
        case hw_5_3_4 => rfl
        case hy_5_3_4 => (intro w0 hF0; have hR0 := fun p h => FL.cell (p := p) hF0 h; first | (go_simp; done) | (go_simp; with_reducible rfl))
        case ha_5_3_4 => (go_simp; rfl)
        refine wpT_take (o := ?o_5_3_5) (v := ?v_5_3_5) (a' := ?aa_5_3_5) ?hi_5_3_5 (Or.inl ⟨?hw_5_3_5, ?hy_5_3_5⟩) ?ha_5_3_5 ?rest_5_3_5
        case hi_5_3_5 => (simp [go_sem]; rfl)
        case hw_5_3_5 => rfl
        case hy_5_3_5 => (intro w0 hF0; clear hF0; first | (go_simp; done) | (go_simp; with_reducible rfl))
        case ha_5_3_5 => (go_simp; rfl)
        refine wpT_take (o := ?o_5_3_6) (v := ?v_5_3_6) (a' := ?aa_5_3_6) ?hi_5_3_6 (Or.inl ⟨?hw_5_3_6, ?hy_5_3_6⟩) ?ha_5_3_6 ?rest_5_3_6
        case hi_5_3_6 => (simp [go_sem]; rfl)
        case hw_5_3_6 => rfl
        case hy_5_3_6 => (intro w0 hF0; clear hF0; first | (go_simp; done) | (go_simp; with_reducible rfl))
        case ha_5_3_6 => (go_simp; rfl)
        refine wpT_take (o := ?o_5_3_7) (v := ?v_5_3_7) (a' := ?aa_5_3_7) ?hi_5_3_7 (Or.inl ⟨?hw_5_3_7, ?hy_5_3_7⟩) ?ha_5_3_7 ?rest_5_3_7
        case hi_5_3_7 => (simp [go_sem]; rfl)
        case hw_5_3_7 => rfl
        case hy_5_3_7 => (intro w0 hF0; have hR0 := fun p h => FL.cell (p := p) hF0 h; first | (go_simp; done) | (go_simp; with_reducible rfl))
        case ha_5_3_7 => (go_simp; rfl)
        refine wpT_take (o := ?o_5_3_8) (v := ?v_5_3_8) (a' := ?aa_5_3_8) ?hi_5_3_8 (Or.inl ⟨?hw_5_3_8, ?hy_5_3_8⟩) ?ha_5_3_8 ?rest_5_3_8
        case hi_5_3_8 => (simp [go_sem]; rfl)
        case hw_5_3_8 => rfl
        case hy_5_3_8 => (intro w0 hF0; clear hF0; first | (go_simp; done) | (go_simp; with_reducible rfl))
        case ha_5_3_8 => (go_simp; rfl)
        refine wpT_done ?_
        clear o0 o1 o2 o3 of ol og d0 d1 d2 df dl dg f3
        by_cases hk0 : k = 0
        · subst hk0
          have CL := hid (fun w => clean_any x 24 w HSA.out (by decide) (by decide))
          rw [E1.out, ← gLow_one, ← lowC_succ] at CL
          generalize e7 : lowC l (0 + 1) = c at *
          have E7 := hid e7
          clear e7
          unfold vRat at CL
          obtain ⟨oc, of, ol, og⟩ := BK.cell st2 0 rfl
          have o0 := oc 0 _ rfl
          have o1 := oc 1 _ rfl
          have o2 := oc 2 _ rfl
          have o3 := oc 3 _ rfl
          clear oc
          go_wp2_with fail
          refine Calls.mono (CL.out _) ?_
          rintro e w1_ ⟨rfl, hb1_⟩
          have st1_ := BK.next (BK.drew st2) hb1_
          clear o0 o1 o2 o3 of ol og
          obtain ⟨rc, rf, rl, rg⟩ := BK.cell st1_ 1 rfl
          have r0 := rc 0 _ rfl
          have r1 := rc 1 _ rfl
          have r2 := rc 2 _ rfl
          clear rc
          have st10 := hid (BK.tail (BK.put3 st1_ 1 rfl 0 (.bool c.neg) (.string c.num) (.string c.den)))
          go_wp2
          go_roundw
          case rel => exact ⟨1, hlt, by go_num, HS1, by rw [E7.out]; exact st10.out⟩
          case measure => simp [intOf]; omega
        · have CL := hid (fun w => qMin_any (enc (gLow l k)) x 24 24 w (sB_enc (few_low HF.out k)) HSA.out (by decide) (by decide) (by decide) (by decide))
          rw [qOf_enc, E1.out, show qmin (gLow l k) (oq l k) = gLow l (k + 1) from rfl, ← lowC_pos l hk0, ← lowC_succ] at CL
          generalize e7 : lowC l (k + 1) = c at *
          have E7 := hid e7
          clear e7
          generalize lowC l k = c0 at *
          have hk1 : ((k : Int) == 0) = false := beq_eq_false_iff_ne.2 (by omega)
          unfold vRat at CL
          obtain ⟨oc, of, ol, og⟩ := BK.cell st2 0 rfl
          have o0 := oc 0 _ rfl
          have o1 := oc 1 _ rfl
          have o2 := oc 2 _ rfl
          have o3 := oc 3 _ rfl
          clear oc
          obtain ⟨rc, rf, rl, rg⟩ := BK.cell st2 1 rfl
          have r0 := rc 0 _ rfl
          have r1 := rc 1 _ rfl
          have r2 := rc 2 _ rfl
          clear rc
          go_wp2_with fail
          refine Calls.mono (CL.out _) ?_
          rintro e w2_ ⟨rfl, hb2_⟩
          have st2_ := BK.next (BK.drew st2) hb2_
          clear o0 o1 o2 o3 of ol og r0 r1 r2 rf rl rg
          obtain ⟨rc, rf, rl, rg⟩ := BK.cell st2_ 1 rfl
          have r0 := rc 0 _ rfl
          have r1 := rc 1 _ rfl
          have r2 := rc 2 _ rfl
          clear rc
          have st10 := hid (BK.tail (BK.put3 st2_ 1 rfl 0 (.bool c.neg) (.string c.num) (.string c.den)))
          go_wp2
          go_roundw
          case rel => exact ⟨k + 1, hlt, by go_num, HS1, by rw [E7.out]; exact st10.out⟩
          case measure => simp [intOf]; omega
      · have CE := hid (HNO.out k hlt (fun h => hr (HQ.out.trans (h.trans HQ0.out.symm))))
        refine wp_region_tree (by kernel_rfl) (.cons 0 true (.cons 1 true (.cons 2 true (.cons 3 true (.cons 4 true (.cons 5 true (.cons 6 true (.cons 7 true .nil)))))))) (fun _ => true) (by kernel_rfl) (fun _ _ d _ _ h => by cases d <;> exact h) ?_
        refine wpT_take (o := ?o_5_4_9) (v := ?v_5_4_9) (a' := ?aa_5_4_9) ?hi_5_4_9 (Or.inl ⟨?hw_5_4_9, ?hy_5_4_9⟩) ?ha_5_4_9 ?rest_5_4_9
        case hi_5_4_9 => (simp [go_sem]; rfl)
        case hw_5_4_9 => rfl
        case hy_5_4_9 => (intro w0 hF0; clear hF0; first | (go_simp; done) | (go_simp; with_reducible rfl))
        case ha_5_4_9 => (go_simp; rfl)
        refine wpT_take (o := ?o_5_4_10) (v := ?v_5_4_10) (a' := ?aa_5_4_10) ?hi_5_4_10 (Or.inl ⟨?hw_5_4_10, ?hy_5_4_10⟩) ?ha_5_4_10 ?rest_5_4_10
        case hi_5_4_10 => (simp [go_sem]; rfl)
        case hw_5_4_10 => rfl
        case hy_5_4_10 => (intro w0 hF0; have hR0 := fun p h => FL.cell (p := p) hF0 h; first | (go_simp; done) | (go_simp; with_reducible rfl))
        case ha_5_4_10 => (go_simp; rfl)
        refine wpT_take (o := ?o_5_4_11) (v := ?v_5_4_11) (a' := ?aa_5_4_11) ?hi_5_4_11 (Or.inl ⟨?hw_5_4_11, ?hy_5_4_11⟩) ?ha_5_4_11 ?rest_5_4_11
        case hi_5_4_11 => (simp [go_sem]; rfl)
        case hw_5_4_11 => rfl
        case hy_5_4_11 => (intro w0 hF0; clear hF0; first | (go_simp; done) | (go_simp; with_reducible rfl))
        case ha_5_4_11 => (go_simp; rfl)
        refine wpT_take (o := ?o_5_4_12) (v := ?v_5_4_12) (a' := ?aa_5_4_12) ?hi_5_4_12 (Or.inl ⟨?hw_5_4_12, ?hy_5_4_12⟩) ?ha_5_4_12 ?rest_5_4_12
        case hi_5_4_12 => (simp [go_sem]; rfl)
        case hw_5_4_12 => rfl
        case hy_5_4_12 => (intro w0 hF0; have hR0 := fun p h => FL.cell (p := p) hF0 h; first | (go_simp; done) | (go_simp; with_reducible rfl))
        case ha_5_4_12 => (go_simp; rfl)
        refine wpT_take (o := ?o_5_4_13) (v := ?v_5_4_13) (a' := ?aa_5_4_13) ?hi_5_4_13 (Or.inl ⟨?hw_5_4_13, ?hy_5_4_13⟩) ?ha_5_4_13 ?rest_5_4_13
        case hi_5_4_13 => (simp [go_sem]; rfl)
        case hw_5_4_13 => rfl
        case hy_5_4_13 => (intro w0 hF0; clear hF0; first | (go_simp; done) | (go_simp; with_reducible rfl))
        case ha_5_4_13 => (go_simp; rfl)
        refine wpT_take (o := ?o_5_4_14) (v := ?v_5_4_14) (a' := ?aa_5_4_14) ?hi_5_4_14 (Or.inl ⟨?hw_5_4_14, ?hy_5_4_14⟩) ?ha_5_4_14 ?rest_5_4_14
        case hi_5_4_14 => (simp [go_sem]; rfl)
        case hw_5_4_14 => rfl
        case hy_5_4_14 => (intro w0 hF0; clear hF0; first | (go_simp; done) | (go_simp; with_reducible rfl))
        case ha_5_4_14 => (go_simp; rfl)
        refine wpT_take (o := ?o_5_4_15) (v := ?v_5_4_15) (a' := ?aa_5_4_15) ?hi_5_4_15 (Or.inl ⟨?hw_5_4_15, ?hy_5_4_15⟩) ?ha_5_4_15 ?rest_5_4_15
        case hi_5_4_15 => (simp [go_sem]; rfl)
        case hw_5_4_15 => rfl
        case hy_5_4_15 => (intro w0 hF0; have hR0 := fun p h => FL.cell (p := p) hF0 h; first | (go_simp; done) | (go_simp; with_reducible rfl))
        case ha_5_4_15 => (go_simp; rfl)
        refine wpT_take (o := ?o_5_4_16) (v := ?v_5_4_16) (a' := ?aa_5_4_16) ?hi_5_4_16 (Or.inl ⟨?hw_5_4_16, ?hy_5_4_16⟩) ?ha_5_4_16 ?rest_5_4_16
        case hi_5_4_16 => (simp [go_sem]; rfl)
        case hw_5_4_16 => rfl
        case hy_5_4_16 => (intro w0 hF0; clear hF0; first | (go_simp; done) | (go_simp; with_reducible rfl))
        case ha_5_4_16 => (go_simp; rfl)
        refine wpT_done ?_
        clear o0 o1 o2 o3 of ol og d0 d1 d2 df dl dg f3
        obtain ⟨rc, rf, rl, rg⟩ := BK.cell st2 2 rfl
        have r0 := rc 0 _ rfl
        have r1 := rc 1 _ rfl
        have r2 := rc 2 _ rfl
        clear rc
        have ST9 := hid (BK.put3 (BK.drew st2) 2 rfl 0 (.bool false) (.string { data := #[] }) (.string { data := #[] }))
        clear st2
        go_wp2
        refine ret_bk (.agg #[.bool false, .string { data := #[] }, .string { data := #[] }]) ST9.out 2 rfl (fun W_ c_ => by have c0_ := c_ 0 _ rfl; have c1_ := c_ 1 _ rfl; have c2_ := c_ 2 _ rfl; simp [results, Tryd.results32, go_sem, c0_, c1_, c2_]) rfl ⟨by rw [CE.out]; rfl, ST9.out.1⟩
    · have hk' : k = n := by omega
      rw [hk'] at HSR st
      rw [← HYES.out HSR.out] at st
      obtain ⟨oc, of, ol, og⟩ := BK.cell st 0 rfl
      have o0 := oc 0 _ rfl
      have o1 := oc 1 _ rfl
      have o2 := oc 2 _ rfl
      clear oc
      obtain ⟨rc, rf, rl, rg⟩ := BK.cell st 1 rfl
      have r0 := rc 0 _ rfl
      have r1 := rc 1 _ rfl
      have r2 := rc 2 _ rfl
      clear rc
      have ST := hid (BK.put3 st 1 rfl 0 (.bool ce.neg) (.string ce.num) (.string ce.den))
      clear st
      go_wp2
      refine ret_bk (.agg #[.bool ce.neg, .string ce.num, .string ce.den]) ST.out 1 rfl (fun W_ c_ => by have c0_ := c_ 0 _ rfl; have c1_ := c_ 1 _ rfl; have c2_ := c_ 2 _ rfl; simp [results, Tryd.results32, go_sem, c0_, c1_, c2_]) rfl ⟨rfl, ST.out.1⟩

set_option maxRecDepth 100000 in
set_option maxHeartbeats 8000000 in
theorem rCertain_any (est cl : Int) (v : Value) (l : List GOpt) (w : World) (hf : fewOpts l = true) (hv : rSlice 4 rOpt w (LT w.heap.size) [v] l) :
    Calls Tryd.prog 33 #[.agg #[.int .i64 est, .int .i64 cl, v]] w fun e w' => e = .returned (vRat (enc (gCert l))) ∧ Below w.heap.size w w' := by
  obtain ⟨a, cap, rfl, h1, h2⟩ := opts_open hv
  have HF := hid hf
  have hn6 : l.length ≤ 6 := by unfold fewOpts at hf; simp only [Bool.and_eq_true, decide_eq_true_eq] at hf; exact hf.1
  clear hf hv
  obtain ⟨n, hn⟩ : ∃ n, n = l.length := ⟨_, rfl⟩
  rw [← hn] at h1 h2 hn6 ⊢
  have HN := hid hn
  have HNO := hid (fun (j : Nat) (hj : j < n) (h : ork l j ≠ ork l 0) => show enc (gCert l) = gZ by rw [gCert_no (by rw [← HN.out]; exact hj) h, gZ_enc])
  have HYES := hid (fun (h : sameRank l n) => show enc (gCert l) = lowC l n by rw [HN.out]; exact cert_low (by rw [← HN.out]; exact h))
  have HNIL := hid (fun (h : n = 0) => show enc (gCert l) = gZ by rw [gCert_nil (by rw [← HN.out]; exact h), gZ_enc])
  generalize enc (gCert l) = ce at *
  clear hn
  unfold vRat
  have st0 := (BK.push (BK.push (BK.nil w) 50 [.int .i64 est, .int .i64 cl, .slice a n cap] (b := w.heap.size) (by simp)) 25 [.bool false, .string { data := #[] }, .string { data := #[] }] (b := w.heap.size + 1) (by simp))
  obtain ⟨dc, df, dl, dg⟩ := BK.cell st0 1 rfl
  have d0 := dc 0 _ rfl
  have d1 := dc 1 _ rfl
  have d2 := dc 2 _ rfl
  clear dc
  have ST0 := hid st0
  clear st0
  by_cases hne : n = 0
  · subst hne
    have CE := hid (HNIL.out rfl)
    clear HNO HYES HNIL
    obtain ⟨rc, rf, rl, rg⟩ := BK.cell ST0.out 0 rfl
    have r0 := rc 0 _ rfl
    have r1 := rc 1 _ rfl
    have r2 := rc 2 _ rfl
    clear rc
    go_enter Tryd.func33, Tryd.ntmps33
    go_wp2
    refine ret_bk (.agg #[.bool false, .string { data := #[] }, .string { data := #[] }]) ST0.out 0 rfl (fun W_ c_ => by have c0_ := c_ 0 _ rfl; have c1_ := c_ 1 _ rfl; have c2_ := c_ 2 _ rfl; simp [results, Tryd.results33, go_sem, c0_, c1_, c2_]) rfl ⟨by rw [CE.out]; rfl, ST0.out.1⟩
  · rcases h2 with rfl | ⟨b, off, rfl, hbb, h3⟩
    · have := HN.out; simp at this; omega
    have hn0 : 0 < n := by omega
    have H3 := hid h3
    have e1 := h3 0 hn0
    simp only [Nat.zero_mul, Nat.add_zero] at e1
    obtain ⟨g0, g1, g2, _, _, _⟩ := e1
    rw [← ST0.out.1.cell (p := ⟨b, off, none⟩) hbb] at g0
    rw [← ST0.out.1.cell (p := ⟨b, off + 1, none⟩) hbb] at g1
    rw [← ST0.out.1.cell (p := ⟨b, off + 2, none⟩) hbb] at g2
    have sA := few_amount HF.out 0
    have FX := hid (fun w => rFix_any (l.getD 0 oZ).amount w (by have := sA.1; omega) (by have := sA.2; omega))
    rw [show qOf (l.getD 0 oZ).amount = gLow l 0 from rfl] at FX
    have HY := hid (fun (h : sameRank l n) => show ce = enc (gLow l n) by rw [HYES.out h, lowC_pos l hne])
    have hl0 : ((n : Int) == 0) = false := beq_eq_false_iff_ne.2 (by omega)
    have hl1 : (0 : Int) < (n : Int) := by omega
    obtain ⟨c, hc⟩ : ∃ c, c = enc (gLow l 0) := ⟨_, rfl⟩
    rw [← hc] at FX
    have HC := hid hc
    obtain ⟨x, hx⟩ : ∃ x, x = (l.getD 0 oZ).amount := ⟨_, rfl⟩
    rw [← hx] at g0 g1 g2 FX
    unfold vRat at FX
    clear hc hx sA h3 HYES HNIL
    go_enter Tryd.func33, Tryd.ntmps33
    go_wp2_with fail
    refine Calls.mono (FX.out _) ?_
    rintro e w1_ ⟨rfl, hb1_⟩
    have st1_ := BK.next ST0.out hb1_
    clear d0 d1 d2 df dl dg g0 g1 g2
    have st2 := BK.push st1_ 25 [.bool c.neg, .string c.num, .string c.den] rfl
    have ST1 := hid st2
    obtain ⟨rc, rf, rl, rg⟩ := BK.cell st2 0 rfl
    clear rc rf st2
    go_wp2
    go_loopw [4] (fun i wr => ∃ k : Nat, k ≤ n ∧ i = .int .i64 k ∧ Hid (sameRank l k) ∧ BK w wr [(w1_.heap.size, 25, [.bool (enc (gLow l k)).neg, .string (enc (gLow l k)).num, .string (enc (gLow l k)).den]), (w.heap.size + 1, 25, [.bool false, .string { data := #[] }, .string { data := #[] }]), (w.heap.size, 50, [.int .i64 est, .int .i64 cl, .slice (some ⟨b, off, none⟩) n cap])]) (fun i _ => n - (intOf i).toNat)
    case atStart => exact ⟨0, Nat.zero_le _, rfl, fun j hj => (by omega), by rw [← HC.out]; exact ST1.out⟩
    case round =>
      obtain ⟨k, hk, rfl, HSR, st⟩ := hrel
      by_cases hlt : k < n
      · obtain ⟨g0, g1, g2, g3, g4, g5⟩ := H3.out k hlt
        rw [← st.1.cell (p := ⟨b, off + k * 4, none⟩) hbb] at g0
        rw [← st.1.cell (p := ⟨b, off + k * 4 + 1, none⟩) hbb] at g1
        rw [← st.1.cell (p := ⟨b, off + k * 4 + 2, none⟩) hbb] at g2
        rw [← st.1.cell (p := ⟨b, off + k * 4 + 3, none⟩) hbb] at g3
        have f3' := (H3.out 0 (by omega)).2.2.2.1
        simp only [Nat.zero_mul, Nat.add_zero] at f3'
        rw [show (l.getD k oZ).rank = ork l k from rfl] at g3
        rw [show (l.getD 0 oZ).rank = ork l 0 from rfl] at f3'
        have hb3 : (0 : Int) ≤ (k : Int) := by omega
        have hb4 : (k : Int) < (n : Int) := by omega
        have hb5 : (0 : Int) < (n : Int) := by omega
        have hn0 : 0 < n := by omega
        have sA := few_amount HF.out k
        have E1 := hid (show qOf (l.getD k oZ).amount = oq l k from rfl)
        have f3 := (st.1.cell (p := ⟨b, off + 3, none⟩) hbb).trans f3'
        obtain ⟨x', hx⟩ : ∃ x, x = (l.getD k oZ).amount := ⟨_, rfl⟩
        rw [← hx] at g0 g1 g2 sA E1
        obtain ⟨q0, hq0⟩ : ∃ q0, q0 = ork l 0 := ⟨_, rfl⟩
        obtain ⟨q, hq⟩ : ∃ q, q = ork l k := ⟨_, rfl⟩
        rw [← hq] at g3
        rw [← hq0] at f3
        have HQ0 := hid hq0
        have HQ := hid hq
        have HSA := hid sA
        have HG := hid (fun (W : World) (h : FL wr W) => (⟨(h.cell (p := ⟨b, off + k * 4, none⟩) (by rw [g0]; rfl)).trans g0, (h.cell (p := ⟨b, off + k * 4 + 1, none⟩) (by rw [g1]; rfl)).trans g1, (h.cell (p := ⟨b, off + k * 4 + 2, none⟩) (by rw [g2]; rfl)).trans g2⟩ : W.cell? ⟨b, off + k * 4, none⟩ = some (.bool x'.neg) ∧ W.cell? ⟨b, off + k * 4 + 1, none⟩ = some (.string x'.num) ∧ W.cell? ⟨b, off + k * 4 + 2, none⟩ = some (.string x'.den)))
        clear hx hq hq0 f3' sA ST1
        obtain ⟨dc, df, dl, dg⟩ := BK.cell st 2 rfl
        have d0 := dc 0 _ rfl
        have d1 := dc 1 _ rfl
        have d2 := dc 2 _ rfl
        clear dc
        go_upto_region 7 with fail
        by_cases hr : q = q0
        · subst hr
          have HS1 := hid (sameRank_succ HSR.out (HQ.out.symm.trans HQ0.out))
          obtain ⟨rc, rf, rl, rg⟩ := BK.cell st 0 rfl
          have r0 := rc 0 _ rfl
          have r1 := rc 1 _ rfl
          have r2 := rc 2 _ rfl
          clear rc
          refine wp_region_tree (by kernel_rfl) (.cons 0 true (.cons 1 true (.cons 2 true (.cons 3 true (.cons 4 true (.cons 5 true (.cons 6 true (.cons 7 true (.cons 8 true (.cons 9 true (.cons 10 true (.cons 11 true .nil)))))))))))) (fun _ => true) (by kernel_rfl) (fun _ _ d _ _ h => by cases d <;> exact h) ?_
          refine wpT_take (o := ?o_7_5_1) (v := ?v_7_5_1) (a' := ?aa_7_5_1) ?hi_7_5_1 (Or.inl ⟨?hw_7_5_1, ?hy_7_5_1⟩) ?ha_7_5_1 ?rest_7_5_1
          case hi_7_5_1 => (simp [go_sem]; rfl)
          case hw_7_5_1 => rfl
          case hy_7_5_1 => (intro w0 hF0; clear hF0; first | (go_simp; done) | (go_simp; with_reducible rfl))
          case ha_7_5_1 => (go_simp; rfl)
          refine wpT_take (o := ?o_7_5_2) (v := ?v_7_5_2) (a' := ?aa_7_5_2) ?hi_7_5_2 (Or.inl ⟨?hw_7_5_2, ?hy_7_5_2⟩) ?ha_7_5_2 ?rest_7_5_2
          case hi_7_5_2 => (simp [go_sem]; rfl)
          case hw_7_5_2 => rfl
          case hy_7_5_2 => (intro w0 hF0; have hR0 := fun p h => FL.cell (p := p) hF0 h; first | (go_simp; done) | (go_simp; with_reducible rfl))
          case ha_7_5_2 => (go_simp; rfl)
          refine wpT_take (o := ?o_7_5_3) (v := ?v_7_5_3) (a' := ?aa_7_5_3) ?hi_7_5_3 (Or.inl ⟨?hw_7_5_3, ?hy_7_5_3⟩) ?ha_7_5_3 ?rest_7_5_3
          case hi_7_5_3 => (simp [go_sem]; rfl)
          case hw_7_5_3 => rfl
          case hy_7_5_3 => (intro w0 hF0; clear hF0; first | (go_simp; done) | (go_simp; with_reducible rfl))
          case ha_7_5_3 => (go_simp; rfl)
          refine wpT_take (o := ?o_7_5_4) (v := ?v_7_5_4) (a' := ?aa_7_5_4) ?hi_7_5_4 (Or.inl ⟨?hw_7_5_4, ?hy_7_5_4⟩) ?ha_7_5_4 ?rest_7_5_4
          case hi_7_5_4 => (simp [go_sem]; rfl)
          case hw_7_5_4 => rfl
          case hy_7_5_4 => (intro w0 hF0; clear hF0; first | (go_simp; done) | (go_simp; with_reducible rfl))
          case ha_7_5_4 => (go_simp; rfl)
          refine wpT_take (o := ?o_7_5_5) (v := ?v_7_5_5) (a' := ?aa_7_5_5) ?hi_7_5_5 (Or.inl ⟨?hw_7_5_5, ?hy_7_5_5⟩) ?ha_7_5_5 ?rest_7_5_5
          case hi_7_5_5 => (simp [go_sem]; rfl)
          case hw_7_5_5 => rfl
          case hy_7_5_5 => (intro w0 hF0; clear hF0; first | (go_simp; done) | (go_simp; with_reducible rfl))
          case ha_7_5_5 => (go_simp; rfl)
          refine wpT_take (o := ?o_7_5_6) (v := ?v_7_5_6) (a' := ?aa_7_5_6) ?hi_7_5_6 (Or.inl ⟨?hw_7_5_6, ?hy_7_5_6⟩) ?ha_7_5_6 ?rest_7_5_6
          case hi_7_5_6 => (simp [go_sem]; rfl)
          case hw_7_5_6 => rfl
          case hy_7_5_6 => (intro w0 hF0; have hR0 := fun p h => FL.cell (p := p) hF0 h; first | (go_simp; done) | (go_simp; with_reducible rfl))
          case ha_7_5_6 => (go_simp; rfl)
          refine wpT_take (o := ?o_7_5_7) (v := ?v_7_5_7) (a' := ?aa_7_5_7) ?hi_7_5_7 (Or.inl ⟨?hw_7_5_7, ?hy_7_5_7⟩) ?ha_7_5_7 ?rest_7_5_7
          case hi_7_5_7 => (simp [go_sem]; rfl)
          case hw_7_5_7 => rfl
          case hy_7_5_7 => (intro w0 hF0; clear hF0; first | (go_simp; done) | (go_simp; with_reducible rfl))
          case ha_7_5_7 => (go_simp; rfl)
          refine wpT_take (o := ?o_7_5_8) (v := ?v_7_5_8) (a' := ?aa_7_5_8) ?hi_7_5_8 (Or.inl ⟨?hw_7_5_8, ?hy_7_5_8⟩) ?ha_7_5_8 ?rest_7_5_8
          case hi_7_5_8 => (simp [go_sem]; rfl)
          case hw_7_5_8 => rfl
          case hy_7_5_8 => (intro w0 hF0; have hR0 := fun p h => FL.cell (p := p) hF0 h; first | (go_simp; done) | (go_simp; with_reducible rfl))
          case ha_7_5_8 => (go_simp; rfl)
          refine wpT_take (o := ?o_7_5_9) (v := ?v_7_5_9) (a' := ?aa_7_5_9) ?hi_7_5_9 (Or.inl ⟨?hw_7_5_9, ?hy_7_5_9⟩) ?ha_7_5_9 ?rest_7_5_9
          case hi_7_5_9 => (simp [go_sem]; rfl)
          case hw_7_5_9 => rfl
          case hy_7_5_9 => (intro w0 hF0; clear hF0; first | (go_simp; done) | (go_simp; with_reducible rfl))
          case ha_7_5_9 => (go_simp; rfl)
          refine wpT_take (o := ?o_7_5_10) (v := ?v_7_5_10) (a' := ?aa_7_5_10) ?hi_7_5_10 (Or.inl ⟨?hw_7_5_10, ?hy_7_5_10⟩) ?ha_7_5_10 ?rest_7_5_10
          case hi_7_5_10 => (simp [go_sem]; rfl)
          case hw_7_5_10 => rfl
          case hy_7_5_10 => (intro w0 hF0; clear hF0; first | (go_simp; done) | (go_simp; with_reducible rfl))
          case ha_7_5_10 => (go_simp; rfl)
          refine wpT_take (o := ?o_7_5_11) (v := ?v_7_5_11) (a' := ?aa_7_5_11) ?hi_7_5_11 (Or.inl ⟨?hw_7_5_11, ?hy_7_5_11⟩) ?ha_7_5_11 ?rest_7_5_11
          case hi_7_5_11 => (simp [go_sem]; rfl)
          case hw_7_5_11 => rfl
          case hy_7_5_11 => (intro w0 hF0; have hR0 := fun p h => FL.cell (p := p) hF0 h; first | (go_simp; done) | (go_simp; with_reducible rfl))
          case ha_7_5_11 => (go_simp; rfl)
          refine wpT_take (o := ?o_7_5_12) (v := ?v_7_5_12) (a' := ?aa_7_5_12) ?hi_7_5_12 (Or.inl ⟨?hw_7_5_12, ?hy_7_5_12⟩) ?ha_7_5_12 ?rest_7_5_12
          case hi_7_5_12 => (simp [go_sem]; rfl)
          case hw_7_5_12 => rfl
          case hy_7_5_12 => (intro w0 hF0; clear hF0; first | (go_simp; done) | (go_simp; with_reducible rfl))
          case ha_7_5_12 => (go_simp; rfl)
          refine wpT_done ?_
          have CL := hid (fun w => rMin_any (enc (gLow l k)) x' 24 24 w (sB_enc (few_low HF.out k)) HSA.out (by decide) (by decide) (by decide) (by decide))
          rw [qOf_enc, E1.out, show qmin (gLow l k) (oq l k) = gLow l (k + 1) from rfl] at CL
          generalize e7 : enc (gLow l (k + 1)) = c1 at *
          have E7 := hid e7
          clear e7
          generalize enc (gLow l k) = c0 at *
          unfold vRat at CL
          go_wp2_with fail
          refine wp_region_tree (by kernel_rfl) (.cons 0 true (.cons 1 true (.cons 2 true (.cons 3 true (.cons 4 true (.cons 5 true (.cons 6 true (.cons 7 false (.cons 8 false .nil))))))))) (fun i => decide (i < 8)) (by kernel_rfl) (fun _ _ d _ _ h => by cases d <;> exact h) ?_
          refine wpT_take (o := ?o_9_6_13) (v := ?v_9_6_13) (a' := ?aa_9_6_13) ?hi_9_6_13 (Or.inl ⟨?hw_9_6_13, ?hy_9_6_13⟩) ?ha_9_6_13 ?rest_9_6_13
          case hi_9_6_13 => (simp [go_sem]; rfl)
          case hw_9_6_13 => rfl
          case hy_9_6_13 => (intro w0 hF0; have hR0 := fun p h => FL.cell (p := p) hF0 h; first | (go_simp; done) | (go_simp; with_reducible rfl))
          case ha_9_6_13 => (go_simp; rfl)
          refine wpT_take (o := ?o_9_6_14) (v := ?v_9_6_14) (a' := ?aa_9_6_14) ?hi_9_6_14 (Or.inl ⟨?hw_9_6_14, ?hy_9_6_14⟩) ?ha_9_6_14 ?rest_9_6_14
          case hi_9_6_14 => (simp [go_sem]; rfl)
          case hw_9_6_14 => rfl
          case hy_9_6_14 => (intro w0 hF0; clear hF0; first | (go_simp; done) | (go_simp; with_reducible rfl))
          case ha_9_6_14 => (go_simp; rfl)
          refine wpT_take (o := ?o_9_6_15) (v := ?v_9_6_15) (a' := ?aa_9_6_15) ?hi_9_6_15 (Or.inl ⟨?hw_9_6_15, ?hy_9_6_15⟩) ?ha_9_6_15 ?rest_9_6_15
          case hi_9_6_15 => (simp [go_sem]; rfl)
          case hw_9_6_15 => rfl
          case hy_9_6_15 => (intro w0 hF0; have hR0 := fun p h => FL.cell (p := p) hF0 h; first | (go_simp; done) | (go_simp; with_reducible rfl))
          case ha_9_6_15 => (go_simp; rfl)
          refine wpT_take (o := ?o_9_6_16) (v := ?v_9_6_16) (a' := ?aa_9_6_16) ?hi_9_6_16 (Or.inl ⟨?hw_9_6_16, ?hy_9_6_16⟩) ?ha_9_6_16 ?rest_9_6_16
          case hi_9_6_16 => (simp [go_sem]; rfl)
          case hw_9_6_16 => rfl
          case hy_9_6_16 => (intro w0 hF0; clear hF0; first | (go_simp; done) | (go_simp; with_reducible rfl))
          case ha_9_6_16 => (go_simp; rfl)
          refine wpT_take (o := ?o_9_6_17) (v := ?v_9_6_17) (a' := ?aa_9_6_17) ?hi_9_6_17 (Or.inl ⟨?hw_9_6_17, ?hy_9_6_17⟩) ?ha_9_6_17 ?rest_9_6_17
          case hi_9_6_17 => (simp [go_sem]; rfl)
          case hw_9_6_17 => rfl
          case hy_9_6_17 => (intro w0 hF0; clear hF0; first | (go_simp; done) | (go_simp; with_reducible rfl))
          case ha_9_6_17 => (go_simp; rfl)
          refine wpT_take (o := ?o_9_6_18) (v := ?v_9_6_18) (a' := ?aa_9_6_18) ?hi_9_6_18 (Or.inl ⟨?hw_9_6_18, ?hy_9_6_18⟩) ?ha_9_6_18 ?rest_9_6_18
          case hi_9_6_18 => (simp [go_sem]; rfl)
          case hw_9_6_18 => rfl
          case hy_9_6_18 => (intro w0 hF0; clear hF0; first | (go_simp; done) | (go_simp; with_reducible rfl))
          case ha_9_6_18 => (go_simp; rfl)
          refine wpT_take (o := ?o_9_6_19) (v := ?v_9_6_19) (a' := ?aa_9_6_19) ?hi_9_6_19 (Or.inl ⟨?hw_9_6_19, ?hy_9_6_19⟩) ?ha_9_6_19 ?rest_9_6_19
          case hi_9_6_19 => (simp [go_sem]; rfl)
          case hw_9_6_19 => rfl
          case hy_9_6_19 => (intro w0 hF0; have hR0 := fun p h => FL.cell (p := p) hF0 h; first | (go_simp; done) | (go_simp; with_reducible rfl))
          case ha_9_6_19 => (go_simp; rfl)
          refine wpT_eff (o := ?o_9_6_20) ?hi_9_6_20 ?hw_9_6_20 (by rfl) (fun K hK => ?rest_9_6_20)
          case hi_9_6_20 => (simp [go_sem]; rfl)
          case hw_9_6_20 => rfl
          go_simp
          refine Calls.mono (CL.out _) ?_
          rintro e w2_ ⟨rfl, hb2_⟩
          have st2_ := BK.next (BK.drew (BK.drew st)) hb2_
          clear d0 d1 d2 df dl dg f3 g3 g0 g1 g2 r0 r1 r2 rf rl rg
          obtain ⟨rc, rf, rl, rg⟩ := BK.cell st2_ 0 rfl
          have r0 := rc 0 _ rfl
          have r1 := rc 1 _ rfl
          have r2 := rc 2 _ rfl
          clear rc
          go_simp
          refine hK _ _ (FL.of_below hb2_) ?_
          clear hK K
          refine wpT_tail 8 (fun j hj => by simp; omega) ?_
          simp only [List.drop_succ_cons, List.drop_zero]
          have st10 := hid (BK.put3 st2_ 0 rfl 0 (.bool c1.neg) (.string c1.num) (.string c1.den))
          go_wp2
          go_roundw
          case rel => exact ⟨k + 1, hlt, by go_num, HS1, by rw [E7.out]; exact st10.out⟩
          case measure => simp [intOf]; omega
        · have CE := hid (HNO.out k hlt (fun h => hr (HQ.out.trans (h.trans HQ0.out.symm))))
          obtain ⟨rc, rf, rl, rg⟩ := BK.cell st 1 rfl
          have r0 := rc 0 _ rfl
          have r1 := rc 1 _ rfl
          have r2 := rc 2 _ rfl
          clear rc
          refine wp_region_tree (by kernel_rfl) (.cons 0 true (.cons 1 true (.cons 2 true (.cons 3 true (.cons 4 true (.cons 5 true (.cons 6 true (.cons 7 true (.cons 8 true (.cons 9 true (.cons 10 true (.cons 11 true .nil)))))))))))) (fun _ => true) (by kernel_rfl) (fun _ _ d _ _ h => by cases d <;> exact h) ?_
          refine wpT_take (o := ?o_7_7_22) (v := ?v_7_7_22) (a' := ?aa_7_7_22) ?hi_7_7_22 (Or.inl ⟨?hw_7_7_22, ?hy_7_7_22⟩) ?ha_7_7_22 ?rest_7_7_22
          case hi_7_7_22 => (simp [go_sem]; rfl)
          case hw_7_7_22 => rfl
          case hy_7_7_22 => (intro w0 hF0; clear hF0; first | (go_simp; done) | (go_simp; with_reducible rfl))
          case ha_7_7_22 => (go_simp; rfl)
          refine wpT_take (o := ?o_7_7_23) (v := ?v_7_7_23) (a' := ?aa_7_7_23) ?hi_7_7_23 (Or.inl ⟨?hw_7_7_23, ?hy_7_7_23⟩) ?ha_7_7_23 ?rest_7_7_23
          case hi_7_7_23 => (simp [go_sem]; rfl)
          case hw_7_7_23 => rfl
          case hy_7_7_23 => (intro w0 hF0; have hR0 := fun p h => FL.cell (p := p) hF0 h; first | (go_simp; done) | (go_simp; with_reducible rfl))
          case ha_7_7_23 => (go_simp; rfl)
          refine wpT_take (o := ?o_7_7_24) (v := ?v_7_7_24) (a' := ?aa_7_7_24) ?hi_7_7_24 (Or.inl ⟨?hw_7_7_24, ?hy_7_7_24⟩) ?ha_7_7_24 ?rest_7_7_24
          case hi_7_7_24 => (simp [go_sem]; rfl)
          case hw_7_7_24 => rfl
          case hy_7_7_24 => (intro w0 hF0; clear hF0; first | (go_simp; done) | (go_simp; with_reducible rfl))
          case ha_7_7_24 => (go_simp; rfl)
          refine wpT_take (o := ?o_7_7_25) (v := ?v_7_7_25) (a' := ?aa_7_7_25) ?hi_7_7_25 (Or.inl ⟨?hw_7_7_25, ?hy_7_7_25⟩) ?ha_7_7_25 ?rest_7_7_25
          case hi_7_7_25 => (simp [go_sem]; rfl)
          case hw_7_7_25 => rfl
          case hy_7_7_25 => (intro w0 hF0; clear hF0; first | (go_simp; done) | (go_simp; with_reducible rfl))
          case ha_7_7_25 => (go_simp; rfl)
          refine wpT_take (o := ?o_7_7_26) (v := ?v_7_7_26) (a' := ?aa_7_7_26) ?hi_7_7_26 (Or.inl ⟨?hw_7_7_26, ?hy_7_7_26⟩) ?ha_7_7_26 ?rest_7_7_26
          case hi_7_7_26 => (simp [go_sem]; rfl)
          case hw_7_7_26 => rfl
          case hy_7_7_26 => (intro w0 hF0; clear hF0; first | (go_simp; done) | (go_simp; with_reducible rfl))
          case ha_7_7_26 => (go_simp; rfl)
          refine wpT_take (o := ?o_7_7_27) (v := ?v_7_7_27) (a' := ?aa_7_7_27) ?hi_7_7_27 (Or.inl ⟨?hw_7_7_27, ?hy_7_7_27⟩) ?ha_7_7_27 ?rest_7_7_27
          case hi_7_7_27 => (simp [go_sem]; rfl)
          case hw_7_7_27 => rfl
          case hy_7_7_27 => (intro w0 hF0; have hR0 := fun p h => FL.cell (p := p) hF0 h; first | (go_simp; done) | (go_simp; with_reducible rfl))
          case ha_7_7_27 => (go_simp; rfl)
          refine wpT_take (o := ?o_7_7_28) (v := ?v_7_7_28) (a' := ?aa_7_7_28) ?hi_7_7_28 (Or.inl ⟨?hw_7_7_28, ?hy_7_7_28⟩) ?ha_7_7_28 ?rest_7_7_28
          case hi_7_7_28 => (simp [go_sem]; rfl)
          case hw_7_7_28 => rfl
          case hy_7_7_28 => (intro w0 hF0; clear hF0; first | (go_simp; done) | (go_simp; with_reducible rfl))
          case ha_7_7_28 => (go_simp; rfl)
          refine wpT_take (o := ?o_7_7_29) (v := ?v_7_7_29) (a' := ?aa_7_7_29) ?hi_7_7_29 (Or.inl ⟨?hw_7_7_29, ?hy_7_7_29⟩) ?ha_7_7_29 ?rest_7_7_29
          case hi_7_7_29 => (simp [go_sem]; rfl)
          case hw_7_7_29 => rfl
          case hy_7_7_29 => (intro w0 hF0; have hR0 := fun p h => FL.cell (p := p) hF0 h; first | (go_simp; done) | (go_simp; with_reducible rfl))
          case ha_7_7_29 => (go_simp; rfl)
          refine wpT_take (o := ?o_7_7_30) (v := ?v_7_7_30) (a' := ?aa_7_7_30) ?hi_7_7_30 (Or.inl ⟨?hw_7_7_30, ?hy_7_7_30⟩) ?ha_7_7_30 ?rest_7_7_30
          case hi_7_7_30 => (simp [go_sem]; rfl)
          case hw_7_7_30 => rfl
          case hy_7_7_30 => (intro w0 hF0; clear hF0; first | (go_simp; done) | (go_simp; with_reducible rfl))
          case ha_7_7_30 => (go_simp; rfl)
          refine wpT_take (o := ?o_7_7_31) (v := ?v_7_7_31) (a' := ?aa_7_7_31) ?hi_7_7_31 (Or.inl ⟨?hw_7_7_31, ?hy_7_7_31⟩) ?ha_7_7_31 ?rest_7_7_31
          case hi_7_7_31 => (simp [go_sem]; rfl)
          case hw_7_7_31 => rfl
          case hy_7_7_31 => (intro w0 hF0; clear hF0; first | (go_simp; done) | (go_simp; with_reducible rfl))
          case ha_7_7_31 => (go_simp; rfl)
          refine wpT_take (o := ?o_7_7_32) (v := ?v_7_7_32) (a' := ?aa_7_7_32) ?hi_7_7_32 (Or.inl ⟨?hw_7_7_32, ?hy_7_7_32⟩) ?ha_7_7_32 ?rest_7_7_32
          case hi_7_7_32 => (simp [go_sem]; rfl)
          case hw_7_7_32 => rfl
          case hy_7_7_32 => (intro w0 hF0; have hR0 := fun p h => FL.cell (p := p) hF0 h; first | (go_simp; done) | (go_simp; with_reducible rfl))
          case ha_7_7_32 => (go_simp; rfl)
          refine wpT_take (o := ?o_7_7_33) (v := ?v_7_7_33) (a' := ?aa_7_7_33) ?hi_7_7_33 (Or.inl ⟨?hw_7_7_33, ?hy_7_7_33⟩) ?ha_7_7_33 ?rest_7_7_33
          case hi_7_7_33 => (simp [go_sem]; rfl)
          case hw_7_7_33 => rfl
          case hy_7_7_33 => (intro w0 hF0; clear hF0; first | (go_simp; done) | (go_simp; with_reducible rfl))
          case ha_7_7_33 => (go_simp; rfl)
          refine wpT_done ?_
          have ST9 := hid (BK.put3 (BK.drew st) 1 rfl 0 (.bool false) (.string { data := #[] }) (.string { data := #[] }))
          clear st
          go_wp2
          refine ret_bk (.agg #[.bool false, .string { data := #[] }, .string { data := #[] }]) ST9.out 1 rfl (fun W_ c_ => by have c0_ := c_ 0 _ rfl; have c1_ := c_ 1 _ rfl; have c2_ := c_ 2 _ rfl; simp [results, Tryd.results33, go_sem, c0_, c1_, c2_]) rfl ⟨by rw [CE.out]; rfl, ST9.out.1⟩
      · have hk' : k = n := by omega
        rw [hk'] at HSR st
        rw [← HY.out HSR.out] at st
        obtain ⟨oc, of, ol, og⟩ := BK.cell st 0 rfl
        have o0 := oc 0 _ rfl
        have o1 := oc 1 _ rfl
        have o2 := oc 2 _ rfl
        clear oc
        obtain ⟨rc, rf, rl, rg⟩ := BK.cell st 1 rfl
        have r0 := rc 0 _ rfl
        have r1 := rc 1 _ rfl
        have r2 := rc 2 _ rfl
        clear rc
        obtain ⟨dc, df, dl, dg⟩ := BK.cell st 2 rfl
        have d0 := dc 0 _ rfl
        have d1 := dc 1 _ rfl
        have d2 := dc 2 _ rfl
        clear dc
        have ST := hid (BK.put3 st 1 rfl 0 (.bool ce.neg) (.string ce.num) (.string ce.den))
        clear st ST1
        go_wp2
        refine ret_bk (.agg #[.bool ce.neg, .string ce.num, .string ce.den]) ST.out 1 rfl (fun W_ c_ => by have c0_ := c_ 0 _ rfl; have c1_ := c_ 1 _ rfl; have c2_ := c_ 2 _ rfl; simp [results, Tryd.results33, go_sem, c0_, c1_, c2_]) rfl ⟨rfl, ST.out.1⟩

end Go.Proofs.YtgmedcncbpdimaaDoor
end
section
/- law22: few; DisputeBounds: walked. -/
namespace Go.Proofs.YtgmedcncbpdimaaDoor
open Go.RowKit
attribute [local go_sem ↓] Go.wp_at_zero Go.wp_at_succ

def fewAm (o : GOpt) : Bool := gFew o.amount
theorem fewOpts_eq (l : List GOpt) : fewOpts l = (decide (l.length ≤ 6) && l.all fewAm) := rfl
def fewD (d : GDisp) : Bool := fewOpts d.opts
theorem fewDisps_eq (l : List GDisp) : fewDisps l = (decide (l.length ≤ 10) && l.all fewD) := rfl
theorem all_step {α : Type} {f : α → Bool} {l : List α} {k : Nat} (hk : k < l.length) (h : (l.take k).all f = true) (h1 : f l[k] = true) : (l.take (k + 1)).all f = true := by
  rw [List.take_succ_eq_append_getElem hk, List.all_append, h]; simp [h1]
theorem all_end {α : Type} {f : α → Bool} {l : List α} {k : Nat} (hk : l.length ≤ k) (h : (l.take k).all f = true) : l.all f = true := by
  rwa [List.take_of_length_le hk] at h
theorem all_no {α : Type} {f : α → Bool} {l : List α} {k : Nat} (hk : k < l.length) (h1 : f l[k] = false) : l.all f = false := by
  rw [List.all_eq_false]; exact ⟨l[k], List.getElem_mem hk, by simp [h1]⟩


set_option maxRecDepth 100000 in
set_option maxHeartbeats 8000000 in
theorem few22_any (v : Value) (l : List GDisp) (w : World) (hv : rSlice 3 rDisp w (LT w.heap.size) [v] l) :
    Calls Tryd.prog 28 #[v] w fun e w' => e = .returned (.bool (fewDisps l)) ∧ Below w.heap.size w w' := by
  obtain ⟨a, cap, hv', q1, q2, q3, q4⟩ := hv
  simp only [List.cons.injEq, and_true] at hv'
  subst hv'
  have hl := len_le q1 q2
  by_cases h10 : l.length ≤ 10
  · have HR := hid (show fewDisps l = l.all fewD by rw [fewDisps_eq]; simp [h10])
    rw [HR.out]
    have HF := hid (fun (r : GRat) (w : World) (h : sB maxLen r) => Few_any r w h.1 h.2)
    unfold vRat at HF
    have hdl : decide (10 < l.length) = false := by simp; omega
    go_enter Tryd.func28, Tryd.ntmps28
    go_wp2
    go_loopw [3, 4] (fun i _ wr => ∃ k : Nat, k ≤ l.length ∧ i = .int .i64 k ∧ Below w.heap.size w wr ∧ Hid ((l.take k).all fewD = true)) (fun i _ _ => l.length - (intOf i).toNat)
    case atStart => exact ⟨0, Nat.zero_le _, rfl, Below.refl _ _, rfl⟩
    case round =>
      obtain ⟨k, hk, rfl, hbw, HA⟩ := hrel
      by_cases hlt : k < l.length
      · rcases q4 with rfl | ⟨b, off, rfl, hA⟩
        · simp at hlt
        obtain ⟨oa, oc, c0, c1, c2, c3⟩ := hA.disp hbw hlt
        have hBb := hA.1
        have HY := hid (fun (h : fewD l[k] = true) => all_step hlt HA.out h)
        have HNO := hid (fun (h : fewD l[k] = false) => all_no (f := fewD) hlt h)
        obtain ⟨d, hd⟩ : ∃ d, d = l[k].opts := ⟨_, rfl⟩
        have HFD := hid (show fewD l[k] = (decide (d.length ≤ 6) && d.all fewAm) by rw [hd]; rfl)
        rw [← hd] at c2 c3
        clear hd
        obtain ⟨oa', oc', e1, o1, o2⟩ := opts_open c3
        simp only [Value.slice.injEq] at e1
        obtain ⟨rfl, _, rfl⟩ := e1
        have HC2 := hid c2
        have HBW := hid hbw
        have HLT := hid (fun (b2 : Nat) (h : b2 < w.heap.size) => Nat.lt_of_lt_of_le h HBW.out.size)
        have hb3 : (0 : Int) ≤ (k : Int) := by omega
        have hb4 : (k : Int) < (l.length : Int) := by omega
        by_cases h6 : d.length ≤ 6
        · have hd6 : decide (6 < d.length) = false := by simp; omega
          have HO2 := hid o2
          clear q1 q2 q3 c3 o2 c0 c1 hbw
          go_wp2_with fail
          go_loopw [4] (fun j ws => ∃ i : Nat, i ≤ d.length ∧ j = .int .i64 i ∧ Below wr.heap.size wr ws ∧ Hid ((d.take i).all fewAm = true)) (fun j _ => d.length - (intOf j).toNat)
          case atStart => exact ⟨0, Nat.zero_le _, rfl, Below.refl _ _, rfl⟩
          case round =>
            clear c2
            obtain ⟨i, hi, rfl, hbs, HB⟩ := hrel
            have hbw2 := HBW.out.step hbs
            have c2 := HC2.out
            rw [← hbs.cell (p := ⟨b, off + k * 3 + 2, none⟩) (Nat.lt_of_lt_of_le hBb HBW.out.size)] at c2
            by_cases hlt2 : i < d.length
            · rcases HO2.out with h | ⟨b2, off2, rfl, hbb2, h3⟩
              · rw [h] at hlt2; simp at hlt2
              obtain ⟨g0, g1, g2, g3, g4, g5⟩ := h3 i hlt2
              have hb2 := HLT.out b2 hbb2
              rw [← hbs.cell (p := ⟨b2, off2 + i * 4, none⟩) hb2] at g0
              rw [← hbs.cell (p := ⟨b2, off2 + i * 4 + 1, none⟩) hb2] at g1
              rw [← hbs.cell (p := ⟨b2, off2 + i * 4 + 2, none⟩) hb2] at g2
              have e9 : d.getD i oZ = d[i] := by simp [List.getD, hlt2]
              have HC := hid (fun w => HF.out (d.getD i oZ).amount w g5)
              have HG := hid (show gFew (d.getD i oZ).amount = fewAm d[i] by rw [e9]; rfl)
              have HY2 := hid (fun (h : fewAm d[i] = true) => all_step hlt2 HB.out h)
              have HN2 := hid (fun (h : fewAm d[i] = false) => HNO.out (by rw [HFD.out, all_no (f := fewAm) hlt2 h, Bool.and_false]))
              rw [HG.out] at HC
              have hb5 : (0 : Int) ≤ (i : Int) := by omega
              have hb6 : (i : Int) < (d.length : Int) := by omega
              obtain ⟨x, hx⟩ : ∃ x, x = (d.getD i oZ).amount := ⟨_, rfl⟩
              rw [← hx] at g0 g1 g2 HC
              clear h3 g3 g4 g5 e9 hx HO2
              obtain ⟨t, ht⟩ : ∃ t, t = fewAm d[i] := ⟨_, rfl⟩
              rw [← ht] at HC
              have HT := hid ht
              clear ht
              have HBS := hid hbs
              clear hbs
              go_wp2_with fail
              refine Calls.mono (HC.out _) ?_
              rintro e w1 ⟨rfl, hb1⟩
              cases t with
              | true =>
                go_wp2
                go_roundw
                case rel => exact ⟨i + 1, hlt2, by go_num, Below.step HBS.out hb1, HY2.out HT.out.symm⟩
                case measure => simp [intOf]; omega
              | false =>
                have HZ := hid (Below.step hbw2 hb1)
                go_wp2
                go_ret
                exact ⟨ret_bool (HN2.out HT.out.symm).symm, HZ.out⟩
            · have HE := hid (HY.out (by rw [HFD.out, all_end (by omega) HB.out]; simp [h6]))
              have HZ := hid hbw2
              have hb6 : decide ((i : Int) < (d.length : Int)) = false := by simp; omega
              clear hbs hbw2 HB
              go_wp2
              go_roundw
              case rel => exact ⟨k + 1, hlt, by go_num, HZ.out, HE.out⟩
              case measure => simp [intOf]; omega
        · have HE := hid (HNO.out (by rw [HFD.out]; simp [h6]))
          have hd6 : decide (6 < d.length) = true := by simp; omega
          clear q1 q2 q3 c3 o2 c0 c1 hbw
          go_wp2
          go_ret
          exact ⟨ret_bool HE.out.symm, HBW.out⟩
      · have HE := hid (all_end (by omega) HA.out)
        clear q1 q2 q3 q4
        go_wp2
        go_ret
        exact ⟨ret_bool HE.out.symm, hbw⟩
  · have HR := hid (show fewDisps l = false by rw [fewDisps_eq]; simp [h10])
    rw [HR.out]
    go_enter Tryd.func28, Tryd.ntmps28
    go_wp2
    go_ret
    exact ⟨rfl, Below.refl _ _⟩

theorem fewDisps_one (d : GDisp) : fewDisps [d] = fewOpts d.opts := by
  rw [fewDisps_eq]; simp [fewD]
theorem one_disp {W : World} {b : Nat} {v : Value} {d : GDisp} {T : TypeId} (h : W.heap[b]? = some (.cells #[.int .i64 d.est, .int .i64 d.cl, v] T (0, 0))) (h1 : i64ok d.est) (h2 : i64ok d.cl) (h3 : rSlice 4 rOpt W (LT W.heap.size) [v] d.opts) :
    rSlice 3 rDisp W (LT W.heap.size) [.slice (some ⟨b, 0, none⟩) 1 1] [d] := by
  refine ⟨some ⟨b, 0, none⟩, 1, rfl, Nat.le_refl _, by unfold maxLen; omega, by simp, .inr ⟨b, 0, rfl, (Array.getElem?_eq_some_iff.1 h).1, fun j hj => ?_⟩⟩
  have hj0 : j = 0 := by simpa using hj
  subst hj0
  refine ⟨[.int .i64 d.est, .int .i64 d.cl, v], rfl, fun c hc => ?_, v, rfl, h1, h2, h3⟩
  have : c = 0 ∨ c = 1 ∨ c = 2 := by omega
  rcases this with rfl | rfl | rfl <;> simp [World.cell?, h]
theorem outV_form (l : List GOpt) : ∃ (x : GRat) (q : Int), outV l = .agg #[.bool x.neg, .string x.num, .string x.den, .int .i64 q] := by
  unfold outV; split
  · exact ⟨gZ, 0, rfl⟩
  · exact ⟨_, _, rfl⟩
set_option maxRecDepth 100000 in
set_option maxHeartbeats 8000000 in
theorem bounds_walk (v0 : Value) (d : GDisp) (w : World) (h0 : ∃ cs : Array Value, v0 = .agg cs ∧ rDisp w (LT w.heap.size) cs.toList d) :
    Calls Tryd.prog 9 #[v0] w fun e w' => e = .returned (.bool true) ∧ Below w.heap.size w w' := by
  obtain ⟨⟨cs⟩, rfl, v, h0, k1, k2, hv⟩ := h0
  simp only at h0
  subst h0
  have AW := hid awake_any
  have HV := hid (fun (w' : World) (hb : Below w.heap.size w w') => (stays_rSlice stays_rOpt).below hv hb hb.size)
  have G := hid (fun (w' : World) (h : fewOpts d.opts = true) (hb : Below w.heap.size w w') => Greatest_any d.est d.cl v d.opts w' h (HV.out w' hb))
  have RG := hid (fun (w' : World) (h : fewOpts d.opts = true) (hb : Below w.heap.size w w') => rGreatest_any d.est d.cl v d.opts w' h (HV.out w' hb))
  have CE := hid (fun (w' : World) (h : fewOpts d.opts = true) (hb : Below w.heap.size w w') => Certain_any d.est d.cl v d.opts w' h (HV.out w' hb))
  have RC := hid (fun (w' : World) (h : fewOpts d.opts = true) (hb : Below w.heap.size w w') => rCertain_any d.est d.cl v d.opts w' h (HV.out w' hb))
  have FE := hid (fun (u : Value) (w' : World) (h : rSlice 3 rDisp w' (LT w'.heap.size) [u] [d]) => few22_any u [d] w' h)
  have OD := hid (fun (W : World) (b : Nat) (h : W.heap[b]? = some (.cells #[.int .i64 d.est, .int .i64 d.cl, v] 50 (0, 0))) (hb : Below w.heap.size w W) => one_disp h k1 k2 (HV.out W hb))
  rw [fewDisps_one] at FE
  obtain ⟨x, q, hO⟩ := outV_form d.opts
  rw [hO] at G RG
  generalize enc (gCert d.opts) = ce at *
  unfold vRat at CE RC
  obtain ⟨t, ht⟩ : ∃ t, t = fewOpts d.opts := ⟨_, rfl⟩
  rw [← ht] at FE G RG CE RC
  have st0 := BK.push (BK.nil w) 50 [.int .i64 d.est, .int .i64 d.cl, v] rfl
  generalize d.est = est at *
  generalize d.cl = cl at *
  clear hO hv k1 k2 HV ht
  obtain ⟨dc, df, dl, dg⟩ := BK.cell st0 0 rfl
  have d0 := dc 0 _ rfl
  have d1 := dc 1 _ rfl
  have d2 := dc 2 _ rfl
  clear dc
  have ST0 := hid st0
  clear st0
  go_enter Tryd.func9, Tryd.ntmps9
  go_wp2_with fail
  have st1 := BK.push ST0.out 50 [.int .i64 est, .int .i64 cl, v] rfl
  have rd := OD.out _ _ (BK.heap st1 0 rfl) st1.1
  refine Calls.mono (FE.out _ _ (by simpa using rd)) ?_
  rintro e w1 ⟨rfl, hb1⟩
  have st2 := BK.tail (BK.next st1 hb1)
  clear d0 d1 d2 df dl dg st1 rd hb1 OD FE
  cases t with
  | false =>
    clear G RG CE RC
    go_wp2_with fail
    refine Calls.mono (AW.out _) ?_
    rintro e w1_ ⟨rfl, hb1_⟩
    have st1_ := BK.next st2 hb1_
    go_wp2
    go_ret
    exact ⟨rfl, st1_.1⟩
  | true =>
    have ST2 := hid st2
    clear st2 ST0
    obtain ⟨dc, df, dl, dg⟩ := BK.cell ST2.out 0 rfl
    have d0 := dc 0 _ rfl
    have d1 := dc 1 _ rfl
    have d2 := dc 2 _ rfl
    clear dc
    go_wp2_with fail
    refine wp_region_tree (by kernel_rfl) (.cons 0 false (.cons 1 true (.cons 2 true (.cons 4 true (.cons 3 false (.cons 5 false (.cons 6 true (.cons 7 true (.cons 8 true (.cons 9 true (.cons 11 true (.cons 10 false (.cons 12 false (.cons 13 true (.cons 14 true (.cons 15 true .nil)))))))))))))))) (fun _ => true) (by kernel_rfl) (fun _ _ d _ _ h => by cases d <;> exact h) ?_
    refine wpT_eff (o := ?o_3_3_1) ?hi_3_3_1 ?hw_3_3_1 (by rfl) (fun K hK => ?rest_3_3_1)
    case hi_3_3_1 => (simp [go_sem]; rfl)
    case hw_3_3_1 => rfl
    go_simp
    refine Calls.mono (AW.out _) ?_
    rintro e w2_ ⟨rfl, hb2_⟩
    have st2_ := BK.next (BK.drew ST2.out) hb2_
    clear d0 d1 d2 df dl dg
    obtain ⟨dc, df, dl, dg⟩ := BK.cell st2_ 0 rfl
    have d0 := dc 0 _ rfl
    have d1 := dc 1 _ rfl
    have d2 := dc 2 _ rfl
    clear dc
    go_simp
    refine hK _ _ (FL.of_below hb2_) ?_
    clear hK K
    refine wpT_take (o := ?o_3_3_2) (v := ?v_3_3_2) (a' := ?aa_3_3_2) ?hi_3_3_2 (Or.inl ⟨?hw_3_3_2, ?hy_3_3_2⟩) ?ha_3_3_2 ?rest_3_3_2
    case hi_3_3_2 => (simp [go_sem]; rfl)
    case hw_3_3_2 => rfl
    case hy_3_3_2 => (intro w0 hF0; clear hF0; first | (go_simp; done) | (go_simp; with_reducible rfl))
    case ha_3_3_2 => (go_simp; rfl)
    refine wpT_take (o := ?o_3_3_3) (v := ?v_3_3_3) (a' := ?aa_3_3_3) ?hi_3_3_3 (Or.inl ⟨?hw_3_3_3, ?hy_3_3_3⟩) ?ha_3_3_3 ?rest_3_3_3
    case hi_3_3_3 => (simp [go_sem]; rfl)
    case hw_3_3_3 => rfl
    case hy_3_3_3 => (intro w0 hF0; have hR0 := fun p h => FL.cell (p := p) hF0 h; first | (go_simp; done) | (go_simp; with_reducible rfl))
    case ha_3_3_3 => (go_simp; rfl)
    refine wpT_take (o := ?o_3_3_4) (v := ?v_3_3_4) (a' := ?aa_3_3_4) ?hi_3_3_4 (Or.inl ⟨?hw_3_3_4, ?hy_3_3_4⟩) ?ha_3_3_4 ?rest_3_3_4
    case hi_3_3_4 => (simp [go_sem]; rfl)
    case hw_3_3_4 => rfl
    case hy_3_3_4 => (intro w0 hF0; have hR0 := fun p h => FL.cell (p := p) hF0 h; first | (go_simp; done) | (go_simp; with_reducible rfl))
    case ha_3_3_4 => (go_simp; rfl)
    refine wpT_eff (o := ?o_3_3_5) ?hi_3_3_5 ?hw_3_3_5 (by rfl) (fun K hK => ?rest_3_3_5)
    case hi_3_3_5 => (simp [go_sem]; rfl)
    case hw_3_3_5 => rfl
    go_simp
    refine Calls.mono (G.out _ (by trivial) st2_.1) ?_
    rintro e w3_ ⟨rfl, hb3_⟩
    have st3_ := BK.next st2_ hb3_
    clear d0 d1 d2 df dl dg
    obtain ⟨dc, df, dl, dg⟩ := BK.cell st3_ 0 rfl
    have d0 := dc 0 _ rfl
    have d1 := dc 1 _ rfl
    have d2 := dc 2 _ rfl
    clear dc
    go_simp
    refine hK _ _ (FL.of_below hb3_) ?_
    clear hK K
    refine wpT_eff (o := ?o_3_3_6) ?hi_3_3_6 ?hw_3_3_6 (by rfl) (fun K hK => ?rest_3_3_6)
    case hi_3_3_6 => (simp [go_sem]; rfl)
    case hw_3_3_6 => rfl
    go_simp
    refine Calls.mono (RG.out _ (by trivial) st3_.1) ?_
    rintro e w4_ ⟨rfl, hb4_⟩
    have st4_ := BK.next st3_ hb4_
    clear d0 d1 d2 df dl dg
    obtain ⟨dc, df, dl, dg⟩ := BK.cell st4_ 0 rfl
    have d0 := dc 0 _ rfl
    have d1 := dc 1 _ rfl
    have d2 := dc 2 _ rfl
    clear dc
    go_simp
    refine hK _ _ (FL.of_below hb4_) ?_
    clear hK K
    refine wpT_take (o := ?o_3_3_7) (v := ?v_3_3_7) (a' := ?aa_3_3_7) ?hi_3_3_7 (Or.inl ⟨?hw_3_3_7, ?hy_3_3_7⟩) ?ha_3_3_7 ?rest_3_3_7
    case hi_3_3_7 => (simp [go_sem]; rfl)
    case hw_3_3_7 => rfl
    case hy_3_3_7 => (intro w0 hF0; clear hF0; first | (go_simp; done) | (go_simp; with_reducible rfl))
    case ha_3_3_7 => (go_simp; rfl)
    refine wpT_take (o := ?o_3_3_8) (v := ?v_3_3_8) (a' := ?aa_3_3_8) ?hi_3_3_8 (Or.inl ⟨?hw_3_3_8, ?hy_3_3_8⟩) ?ha_3_3_8 ?rest_3_3_8
    case hi_3_3_8 => (simp [go_sem]; rfl)
    case hw_3_3_8 => rfl
    case hy_3_3_8 => (intro w0 hF0; clear hF0; first | (go_simp; done) | (go_simp; with_reducible rfl))
    case ha_3_3_8 => (go_simp; rfl)
    refine wpT_take (o := ?o_3_3_9) (v := ?v_3_3_9) (a' := ?aa_3_3_9) ?hi_3_3_9 (Or.inl ⟨?hw_3_3_9, ?hy_3_3_9⟩) ?ha_3_3_9 ?rest_3_3_9
    case hi_3_3_9 => (simp [go_sem]; rfl)
    case hw_3_3_9 => rfl
    case hy_3_3_9 => (intro w0 hF0; clear hF0; first | (go_simp; done) | (go_simp; with_reducible rfl))
    case ha_3_3_9 => (go_simp; rfl)
    refine wpT_take (o := ?o_3_3_10) (v := ?v_3_3_10) (a' := ?aa_3_3_10) ?hi_3_3_10 (Or.inl ⟨?hw_3_3_10, ?hy_3_3_10⟩) ?ha_3_3_10 ?rest_3_3_10
    case hi_3_3_10 => (simp [go_sem]; rfl)
    case hw_3_3_10 => rfl
    case hy_3_3_10 => (intro w0 hF0; have hR0 := fun p h => FL.cell (p := p) hF0 h; first | (go_simp; done) | (go_simp; with_reducible rfl))
    case ha_3_3_10 => (go_simp; rfl)
    refine wpT_take (o := ?o_3_3_11) (v := ?v_3_3_11) (a' := ?aa_3_3_11) ?hi_3_3_11 (Or.inl ⟨?hw_3_3_11, ?hy_3_3_11⟩) ?ha_3_3_11 ?rest_3_3_11
    case hi_3_3_11 => (simp [go_sem]; rfl)
    case hw_3_3_11 => rfl
    case hy_3_3_11 => (intro w0 hF0; have hR0 := fun p h => FL.cell (p := p) hF0 h; first | (go_simp; done) | (go_simp; with_reducible rfl))
    case ha_3_3_11 => (go_simp; rfl)
    refine wpT_eff (o := ?o_3_3_12) ?hi_3_3_12 ?hw_3_3_12 (by rfl) (fun K hK => ?rest_3_3_12)
    case hi_3_3_12 => (simp [go_sem]; rfl)
    case hw_3_3_12 => rfl
    go_simp
    refine Calls.mono (CE.out _ (by trivial) st4_.1) ?_
    rintro e w5_ ⟨rfl, hb5_⟩
    have st5_ := BK.next st4_ hb5_
    clear d0 d1 d2 df dl dg
    obtain ⟨dc, df, dl, dg⟩ := BK.cell st5_ 0 rfl
    have d0 := dc 0 _ rfl
    have d1 := dc 1 _ rfl
    have d2 := dc 2 _ rfl
    clear dc
    go_simp
    refine hK _ _ (FL.of_below hb5_) ?_
    clear hK K
    refine wpT_eff (o := ?o_3_3_13) ?hi_3_3_13 ?hw_3_3_13 (by rfl) (fun K hK => ?rest_3_3_13)
    case hi_3_3_13 => (simp [go_sem]; rfl)
    case hw_3_3_13 => rfl
    go_simp
    refine Calls.mono (RC.out _ (by trivial) st5_.1) ?_
    rintro e w6_ ⟨rfl, hb6_⟩
    have st6_ := BK.next st5_ hb6_
    clear d0 d1 d2 df dl dg
    go_simp
    refine hK _ _ (FL.of_below hb6_) ?_
    clear hK K
    refine wpT_take (o := ?o_3_3_14) (v := ?v_3_3_14) (a' := ?aa_3_3_14) ?hi_3_3_14 (Or.inl ⟨?hw_3_3_14, ?hy_3_3_14⟩) ?ha_3_3_14 ?rest_3_3_14
    case hi_3_3_14 => (simp [go_sem]; rfl)
    case hw_3_3_14 => rfl
    case hy_3_3_14 => (intro w0 hF0; clear hF0; first | (go_simp; done) | (go_simp; with_reducible rfl))
    case ha_3_3_14 => (go_simp; rfl)
    refine wpT_take (o := ?o_3_3_15) (v := ?v_3_3_15) (a' := ?aa_3_3_15) ?hi_3_3_15 (Or.inl ⟨?hw_3_3_15, ?hy_3_3_15⟩) ?ha_3_3_15 ?rest_3_3_15
    case hi_3_3_15 => (simp [go_sem]; rfl)
    case hw_3_3_15 => rfl
    case hy_3_3_15 => (intro w0 hF0; clear hF0; first | (go_simp; done) | (go_simp; with_reducible rfl))
    case ha_3_3_15 => (go_simp; rfl)
    refine wpT_take (o := ?o_3_3_16) (v := ?v_3_3_16) (a' := ?aa_3_3_16) ?hi_3_3_16 (Or.inl ⟨?hw_3_3_16, ?hy_3_3_16⟩) ?ha_3_3_16 ?rest_3_3_16
    case hi_3_3_16 => (simp [go_sem]; rfl)
    case hw_3_3_16 => rfl
    case hy_3_3_16 => (intro w0 hF0; clear hF0; first | (go_simp; done) | (go_simp; with_reducible rfl))
    case ha_3_3_16 => (go_simp; rfl)
    refine wpT_done ?_
    go_wp2
    go_ret
    exact ⟨rfl, st6_.1⟩

end Go.Proofs.YtgmedcncbpdimaaDoor
end
