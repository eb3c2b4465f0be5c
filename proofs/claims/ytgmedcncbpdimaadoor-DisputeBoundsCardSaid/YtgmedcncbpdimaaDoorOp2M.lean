/- dispute.Greatest, Certain; insolvencyref21.Greatest, Certain: walked. -/
import Derived.Test.YtgmedcncbpdimaaDoorOp0M
import Derived.Test.YtgmedcncbpdimaaDoorBkM
set_option linter.unusedVariables false
set_option linter.unusedSimpArgs false
/- dispute.Greatest, Certain; insolvencyref21.Greatest, Certain: walked. -/
namespace Go.Proofs.YtgmedcncbpdimaaDoor
open Go.RowKit
attribute [local go_sem ↓] Go.wp_at_zero Go.wp_at_succ

/-- The cells of what Greatest has so far. -/
noncomputable def outC (l : List GOpt) (k : Nat) : List Value := if k = 0 then [.bool false, .string { data := #[] }, .string { data := #[] }, .int .i64 0] else [.bool (enc (gTop l k)).neg, .string (enc (gTop l k)).num, .string (enc (gTop l k)).den, .int .i64 (gSen l k)]
noncomputable def outV (l : List GOpt) : Value := if l.length = 0 then .agg #[.bool false, .string { data := #[] }, .string { data := #[] }, .int .i64 0] else .agg #[.bool (enc (gTop l l.length)).neg, .string (enc (gTop l l.length)).num, .string (enc (gTop l l.length)).den, .int .i64 (gSen l l.length)]
theorem outC_zero (l : List GOpt) : outC l 0 = [.bool false, .string { data := #[] }, .string { data := #[] }, .int .i64 0] := if_pos rfl
theorem outC_succ (l : List GOpt) (k : Nat) : outC l (k + 1) = [.bool (enc (gTop l (k + 1))).neg, .string (enc (gTop l (k + 1))).num, .string (enc (gTop l (k + 1))).den, .int .i64 (gSen l (k + 1))] := if_neg (by omega)
theorem outC_pos (l : List GOpt) {k : Nat} (h : k ≠ 0) : outC l k = [.bool (enc (gTop l k)).neg, .string (enc (gTop l k)).num, .string (enc (gTop l k)).den, .int .i64 (gSen l k)] := if_neg h


set_option maxRecDepth 100000 in
set_option maxHeartbeats 8000000 in
theorem Greatest_any (est cl : Int) (v : Value) (l : List GOpt) (w : World) (hf : fewOpts l = true) (hv : rSlice 4 rOpt w (LT w.heap.size) [v] l) :
    Calls Tryd.prog 30 #[.agg #[.int .i64 est, .int .i64 cl, v]] w fun e w' => e = .returned (outV l) ∧ Below w.heap.size w w' := by
  obtain ⟨a, cap, rfl, h1, h2⟩ := opts_open hv
  have HF := hid hf
  have hn6 : l.length ≤ 6 := by unfold fewOpts at hf; simp only [Bool.and_eq_true, decide_eq_true_eq] at hf; exact hf.1
  clear hf hv
  have st0 := (BK.push (BK.push (BK.push (BK.nil w) 50 [.int .i64 est, .int .i64 cl, .slice a l.length cap] (b := w.heap.size) (by simp)) 54 [.bool false, .string { data := #[] }, .string { data := #[] }, .int .i64 0] (b := w.heap.size + 1) (by simp)) 54 [.bool false, .string { data := #[] }, .string { data := #[] }, .int .i64 0] (b := w.heap.size + 1 + 1) (by simp))
  obtain ⟨dc, df, dl, dg⟩ := BK.cell st0 2 rfl
  have d0 := dc 0 _ rfl
  have d1 := dc 1 _ rfl
  have d2 := dc 2 _ rfl
  clear dc
  have ST0 := hid st0
  clear st0
  go_enter Tryd.func30, Tryd.ntmps30
  go_wp2
  go_loopw [4, 5, 9] (fun _ _ i wr => ∃ k : Nat, k ≤ l.length ∧ i = .int .i64 k ∧ BK w wr [(w.heap.size + 1 + 1, 54, outC l k), (w.heap.size + 1, 54, [.bool false, .string { data := #[] }, .string { data := #[] }, .int .i64 0]), (w.heap.size, 50, [.int .i64 est, .int .i64 cl, .slice a l.length cap])]) (fun _ _ i _ => l.length - (intOf i).toNat)
  case atStart => exact ⟨0, Nat.zero_le _, rfl, by rw [outC_zero]; exact ST0.out⟩
  case round =>
    clear d0 d1 d2 df dl dg
    obtain ⟨k, hk, rfl, st⟩ := hrel
    by_cases hlt : k < l.length
    · rcases h2 with rfl | ⟨b, off, rfl, hbb, h3⟩
      · simp at hlt
      obtain ⟨g0, g1, g2, g3, g4, g5⟩ := h3 k hlt
      rw [← st.1.cell (p := ⟨b, off + k * 4, none⟩) hbb] at g0
      rw [← st.1.cell (p := ⟨b, off + k * 4 + 1, none⟩) hbb] at g1
      rw [← st.1.cell (p := ⟨b, off + k * 4 + 2, none⟩) hbb] at g2
      rw [← st.1.cell (p := ⟨b, off + k * 4 + 3, none⟩) hbb] at g3
      have hb3 : (0 : Int) ≤ (k : Int) := by omega
      have hb4 : (k : Int) < (l.length : Int) := by omega
      have sA := few_amount HF.out k
      have E1 := hid (show qOf (l.getD k oZ).amount = oq l k from rfl)
      have E2 := hid (show (l.getD k oZ).rank = ork l k from rfl)
      rw [E2.out] at g3
      by_cases hk0 : k = 0
      · subst hk0
        have CL := hid (fun w => clean_any (l.getD 0 oZ).amount 24 w sA (by decide) (by decide))
        rw [E1.out, ← gTop_one] at CL
        rw [show ork l 0 = gSen l 1 from (gSen_one l).symm] at g3
        have E3 := hid (outC_succ l 0)
        simp only [Nat.zero_mul, Nat.add_zero] at g0 g1 g2 g3
        rw [outC_zero] at st
        generalize enc (gTop l 1) = c at *
        generalize gSen l 1 = q at *
        obtain ⟨x, hx⟩ : ∃ x, x = (l.getD 0 oZ).amount := ⟨_, rfl⟩
        rw [← hx] at g0 g1 g2 CL
        unfold vRat at CL
        have st1 := hid (BK.push st 54 [.bool x.neg, .string x.num, .string x.den, .int .i64 q] rfl)
        clear hx sA E1 E2 h3 st
        go_upto_region 6 with fail
        have st2 := st1.out
        clear st1 g0 g1 g2 g3
        obtain ⟨oc, of, ol, og⟩ := BK.cell st2 0 rfl
        have o0 := oc 0 _ rfl
        have o1 := oc 1 _ rfl
        have o2 := oc 2 _ rfl
        have o3 := oc 3 _ rfl
        clear oc
        refine wp_region_sched (by kernel_rfl) [(0, true), (1, true), (3, true), (4, true), (2, false), (5, true), (6, false)] (fun i => decide (i < 6)) (by kernel_rfl) (fun _ _ d _ _ h => by cases d <;> exact h) ?_
        refine wpS_take (o := ?o0_6_3) (v := ?v0_6_3) (a' := ?aa0_6_3) ?hi0_6_3 (Or.inl ⟨?hw0_6_3, ?hy0_6_3⟩) ?ha0_6_3 ?rest0_6_3
        case hi0_6_3 => (simp [go_sem]; rfl)
        case hw0_6_3 => rfl
        case hy0_6_3 => (intro w0 hF0; clear hF0; first | (go_simp; done) | (go_simp; with_reducible rfl))
        case ha0_6_3 => (go_simp; rfl)
        refine wpS_take (o := ?o1_6_3) (v := ?v1_6_3) (a' := ?aa1_6_3) ?hi1_6_3 (Or.inl ⟨?hw1_6_3, ?hy1_6_3⟩) ?ha1_6_3 ?rest1_6_3
        case hi1_6_3 => (simp [go_sem]; rfl)
        case hw1_6_3 => rfl
        case hy1_6_3 => (intro w0 hF0; have hR0 := fun p h => FL.cell (p := p) hF0 h; first | (go_simp; done) | (go_simp; with_reducible rfl))
        case ha1_6_3 => (go_simp; rfl)
        refine wpS_take (o := ?o3_6_3) (v := ?v3_6_3) (a' := ?aa3_6_3) ?hi3_6_3 (Or.inl ⟨?hw3_6_3, ?hy3_6_3⟩) ?ha3_6_3 ?rest3_6_3
        case hi3_6_3 => (simp [go_sem]; rfl)
        case hw3_6_3 => rfl
        case hy3_6_3 => (intro w0 hF0; clear hF0; first | (go_simp; done) | (go_simp; with_reducible rfl))
        case ha3_6_3 => (go_simp; rfl)
        refine wpS_take (o := ?o4_6_3) (v := ?v4_6_3) (a' := ?aa4_6_3) ?hi4_6_3 (Or.inl ⟨?hw4_6_3, ?hy4_6_3⟩) ?ha4_6_3 ?rest4_6_3
        case hi4_6_3 => (simp [go_sem]; rfl)
        case hw4_6_3 => rfl
        case hy4_6_3 => (intro w0 hF0; have hR0 := fun p h => FL.cell (p := p) hF0 h; first | (go_simp; done) | (go_simp; with_reducible rfl))
        case ha4_6_3 => (go_simp; rfl)
        refine wpS_eff (o := ?o2_6_3) ?hi2_6_3 ?hw2_6_3 (by rfl) (fun K hK => ?rest2_6_3)
        case hi2_6_3 => (simp [go_sem]; rfl)
        case hw2_6_3 => rfl
        go_simp
        refine Calls.mono (CL.out _) ?_
        rintro e w1_ ⟨rfl, hb1_⟩
        have st1_ := BK.next (BK.drew st2) hb1_
        clear o0 o1 o2 o3 of ol og
        obtain ⟨rc, rf, rl, rg⟩ := BK.cell st1_ 1 rfl
        have r0 := rc 0 _ rfl
        have r1 := rc 1 _ rfl
        have r2 := rc 2 _ rfl
        have r3 := rc 3 _ rfl
        clear rc
        go_simp
        refine hK _ _ (FL.of_below hb1_) ?_
        clear hK K
        refine wpS_take (o := ?o5_6_3) (v := ?v5_6_3) (a' := ?aa5_6_3) ?hi5_6_3 (Or.inl ⟨?hw5_6_3, ?hy5_6_3⟩) ?ha5_6_3 ?rest5_6_3
        case hi5_6_3 => (simp [go_sem]; rfl)
        case hw5_6_3 => rfl
        case hy5_6_3 => (intro w0 hF0; clear hF0; first | (go_simp; done) | (go_simp; with_reducible rfl))
        case ha5_6_3 => (go_simp; rfl)
        refine wpS_tail 6 (fun j hj => by simp; omega) ?_
        simp only [List.drop_succ_cons, List.drop_zero]
        have st9 := BK.set (BK.put3 st1_ 1 rfl 0 (.bool c.neg) (.string c.num) (.string c.den)) 1 rfl 3 (.int .i64 q)
        have st10 := hid (BK.tail st9)
        clear st9
        go_wp2
        go_roundw
        case rel => exact ⟨1, hlt, by go_num, by rw [E3.out]; exact st10.out⟩
        case measure => simp [intOf]; omega
      · have CL := hid (fun w => qMax_any (enc (gTop l k)) (l.getD k oZ).amount 24 24 w (sB_enc (few_top HF.out k)) sA (by decide) (by decide) (by decide) (by decide))
        rw [qOf_enc, E1.out, show qmax (gTop l k) (oq l k) = gTop l (k + 1) from rfl] at CL
        have E3 := hid (outC_succ l k)
        rw [outC_pos l hk0] at st
        have E4 := hid (show gSen l (k + 1) = imin (gSen l k) (ork l k) from rfl)
        generalize gSen l (k + 1) = q' at *
        generalize gSen l k = q at *
        generalize ork l k = q2 at *
        generalize enc (gTop l (k + 1)) = c at *
        generalize enc (gTop l k) = c0 at *
        obtain ⟨x, hx⟩ : ∃ x, x = (l.getD k oZ).amount := ⟨_, rfl⟩
        rw [← hx] at g0 g1 g2 CL
        unfold vRat at CL
        have st1 := hid (BK.push st 54 [.bool x.neg, .string x.num, .string x.den, .int .i64 q2] rfl)
        have hk1 : ((k : Int) == 0) = false := by simp; omega
        clear hx sA E1 E2 h3 st
        go_upto_region 7 with fail
        have st2 := st1.out
        clear st1 g0 g1 g2 g3
        obtain ⟨oc, of, ol, og⟩ := BK.cell st2 0 rfl
        have o0 := oc 0 _ rfl
        have o1 := oc 1 _ rfl
        have o2 := oc 2 _ rfl
        have o3 := oc 3 _ rfl
        clear oc
        obtain ⟨rc, rf, rl, rg⟩ := BK.cell st2 1 rfl
        have r0 := rc 0 _ rfl
        have r1 := rc 1 _ rfl
        have r2 := rc 2 _ rfl
        have r3 := rc 3 _ rfl
        clear rc
        go_wp2_with fail
        refine Calls.mono (CL.out _) ?_
        rintro e w2_ ⟨rfl, hb2_⟩
        have st2_ := BK.next st2 hb2_
        clear o0 o1 o2 o3 of ol og r0 r1 r2 r3 rf rl rg
        obtain ⟨oc, of, ol, og⟩ := BK.cell st2_ 0 rfl
        have o0 := oc 0 _ rfl
        have o1 := oc 1 _ rfl
        have o2 := oc 2 _ rfl
        have o3 := oc 3 _ rfl
        clear oc
        obtain ⟨rc, rf, rl, rg⟩ := BK.cell st2_ 1 rfl
        have r0 := rc 0 _ rfl
        have r1 := rc 1 _ rfl
        have r2 := rc 2 _ rfl
        have r3 := rc 3 _ rfl
        clear rc
        have st9 := BK.put3 st2_ 1 rfl 0 (.bool c.neg) (.string c.num) (.string c.den)
        have st10 := hid (BK.tail (BK.set st9 1 rfl 3 (.int .i64 (min q q2))))
        have E5 := hid (show q' = min q q2 from E4.out)
        clear st9 E4
        go_wp2
        go_roundw
        case rel => exact ⟨k + 1, hlt, by go_num, by rw [E3.out, E5.out]; exact st10.out⟩
        case measure => simp [intOf]; omega
    · have hk' : k = l.length := by omega
      have EV := hid (show outV l = .agg (outC l k).toArray by rw [hk']; unfold outV outC; split <;> rfl)
      obtain ⟨x, q, hO⟩ : ∃ (x : GRat) (q : Int), outC l k = [.bool x.neg, .string x.num, .string x.den, .int .i64 q] := by
        unfold outC; split
        · exact ⟨gZ, 0, rfl⟩
        · exact ⟨_, _, rfl⟩
      rw [hO] at st EV
      have EVH := hid EV
      have ST := hid st
      clear hO h2 hk' hk EV
      obtain ⟨oc, of, ol, og⟩ := BK.cell st 0 rfl
      have o0 := oc 0 _ rfl
      have o1 := oc 1 _ rfl
      have o2 := oc 2 _ rfl
      have o3 := oc 3 _ rfl
      clear oc
      obtain ⟨rc, rf, rl, rg⟩ := BK.cell st 1 rfl
      have r0 := rc 0 _ rfl
      have r1 := rc 1 _ rfl
      have r2 := rc 2 _ rfl
      have r3 := rc 3 _ rfl
      clear rc
      clear st
      have st9 := BK.set (BK.put3 ST.out 1 rfl 0 (.bool x.neg) (.string x.num) (.string x.den)) 1 rfl 3 (.int .i64 q)
      have ST9 := hid st9
      clear st9
      go_wp2
      refine ret_bk (.agg #[.bool x.neg, .string x.num, .string x.den, .int .i64 q]) ST9.out 1 rfl (fun W_ c_ => by have c0_ := c_ 0 _ rfl; have c1_ := c_ 1 _ rfl; have c2_ := c_ 2 _ rfl; have c3_ := c_ 3 _ rfl; simp [results, Tryd.results30, go_sem, c0_, c1_, c2_, c3_]) rfl ⟨by rw [EVH.out], ST9.out.1⟩

set_option maxRecDepth 100000 in
set_option maxHeartbeats 8000000 in
theorem rGreatest_any (est cl : Int) (v : Value) (l : List GOpt) (w : World) (hf : fewOpts l = true) (hv : rSlice 4 rOpt w (LT w.heap.size) [v] l) :
    Calls Tryd.prog 31 #[.agg #[.int .i64 est, .int .i64 cl, v]] w fun e w' => e = .returned (outV l) ∧ Below w.heap.size w w' := by
  obtain ⟨a, cap, rfl, h1, h2⟩ := opts_open hv
  have HF := hid hf
  have hn6 : l.length ≤ 6 := by unfold fewOpts at hf; simp only [Bool.and_eq_true, decide_eq_true_eq] at hf; exact hf.1
  clear hf hv
  obtain ⟨n, hn⟩ : ∃ n, n = l.length := ⟨_, rfl⟩
  rw [← hn] at h1 h2 hn6 ⊢
  have HN := hid hn
  clear hn
  have st0 := (BK.push (BK.push (BK.nil w) 50 [.int .i64 est, .int .i64 cl, .slice a n cap] (b := w.heap.size) (by simp)) 54 [.bool false, .string { data := #[] }, .string { data := #[] }, .int .i64 0] (b := w.heap.size + 1) (by simp))
  obtain ⟨dc, df, dl, dg⟩ := BK.cell st0 1 rfl
  have d0 := dc 0 _ rfl
  have d1 := dc 1 _ rfl
  have d2 := dc 2 _ rfl
  clear dc
  have ST0 := hid st0
  clear st0
  by_cases hne : n = 0
  · have EV := hid (show outV l = .agg #[.bool false, .string { data := #[] }, .string { data := #[] }, .int .i64 0] from if_pos (by rw [← HN.out]; exact hne))
    subst hne
    obtain ⟨rc, rf, rl, rg⟩ := BK.cell ST0.out 0 rfl
    have r0 := rc 0 _ rfl
    have r1 := rc 1 _ rfl
    have r2 := rc 2 _ rfl
    have r3 := rc 3 _ rfl
    clear rc
    go_enter Tryd.func31, Tryd.ntmps31
    go_wp2
    refine ret_bk (.agg #[.bool false, .string { data := #[] }, .string { data := #[] }, .int .i64 0]) ST0.out 0 rfl (fun W_ c_ => by have c0_ := c_ 0 _ rfl; have c1_ := c_ 1 _ rfl; have c2_ := c_ 2 _ rfl; have c3_ := c_ 3 _ rfl; simp [results, Tryd.results31, go_sem, c0_, c1_, c2_, c3_]) rfl ⟨by rw [EV.out], ST0.out.1⟩
  · rcases h2 with rfl | ⟨b, off, rfl, hbb, h3⟩
    · have := HN.out; simp at this; omega
    have hn0 : 0 < n := by omega
    have EV := hid (show outV l = .agg #[.bool (enc (gTop l n)).neg, .string (enc (gTop l n)).num, .string (enc (gTop l n)).den, .int .i64 (gSen l n)] by rw [HN.out]; exact if_neg (by rw [← HN.out]; exact hne))
    have H3 := hid h3
    have e1 := h3 0 hn0
    simp only [Nat.zero_mul, Nat.add_zero] at e1
    obtain ⟨g0, g1, g2, g3, _, _⟩ := e1
    rw [← ST0.out.1.cell (p := ⟨b, off, none⟩) hbb] at g0
    rw [← ST0.out.1.cell (p := ⟨b, off + 1, none⟩) hbb] at g1
    rw [← ST0.out.1.cell (p := ⟨b, off + 2, none⟩) hbb] at g2
    rw [← ST0.out.1.cell (p := ⟨b, off + 3, none⟩) hbb] at g3
    have sA := few_amount HF.out 0
    have FX := hid (fun w => rFix_any (l.getD 0 oZ).amount w (by have := sA.1; omega) (by have := sA.2; omega))
    rw [show qOf (l.getD 0 oZ).amount = gTop l 0 from rfl] at FX
    rw [show (l.getD 0 oZ).rank = gSen l 0 from rfl] at g3
    have hl0 : ((n : Int) == 0) = false := beq_eq_false_iff_ne.2 (by omega)
    have hl1 : (0 : Int) < (n : Int) := by omega
    obtain ⟨c, hc⟩ : ∃ c, c = enc (gTop l 0) := ⟨_, rfl⟩
    rw [← hc] at FX
    have HC := hid hc
    obtain ⟨q, hq⟩ : ∃ q, q = gSen l 0 := ⟨_, rfl⟩
    rw [← hq] at g3
    have HQ := hid hq
    obtain ⟨x, hx⟩ : ∃ x, x = (l.getD 0 oZ).amount := ⟨_, rfl⟩
    rw [← hx] at g0 g1 g2 FX
    unfold vRat at FX
    clear hc hq hx sA h3
    go_enter Tryd.func31, Tryd.ntmps31
    go_upto_region 3 with fail
    go_cut [3] (fun s3 wx => ∃ g : Nat, s3 = .pointer (some ⟨g, 0, none⟩) ∧ BK w wx [(g, 54, [.bool c.neg, .string c.num, .string c.den, .int .i64 q]), (w.heap.size + 1, 54, [.bool false, .string { data := #[] }, .string { data := #[] }, .int .i64 0]), (w.heap.size, 50, [.int .i64 est, .int .i64 cl, .slice (some ⟨b, off, none⟩) n cap])])
    case first =>
      refine wp_region_tree (by kernel_rfl) (.cons 0 true (.cons 1 true (.cons 2 true (.cons 3 true (.cons 4 true (.cons 6 true (.cons 7 true (.cons 8 true (.cons 9 true (.cons 10 true (.two 5 12 (.cons 11 true (.cons 12 false (.cons 13 false .nil))) (.cons 5 false (.cons 11 true (.cons 13 false .nil)))))))))))))) (fun i => decide (i < 13)) (by kernel_rfl) (fun _ _ d _ _ h => by cases d <;> exact h) ?_
      refine wpT_take (o := ?o_3_4_1) (v := ?v_3_4_1) (a' := ?aa_3_4_1) ?hi_3_4_1 (Or.inl ⟨?hw_3_4_1, ?hy_3_4_1⟩) ?ha_3_4_1 ?rest_3_4_1
      case hi_3_4_1 => (simp [go_sem]; rfl)
      case hw_3_4_1 => rfl
      case hy_3_4_1 => (intro w0 hF0; clear hF0; first | (go_simp; done) | (go_simp; with_reducible rfl))
      case ha_3_4_1 => (go_simp; rfl)
      refine wpT_take (o := ?o_3_4_2) (v := ?v_3_4_2) (a' := ?aa_3_4_2) ?hi_3_4_2 (Or.inl ⟨?hw_3_4_2, ?hy_3_4_2⟩) ?ha_3_4_2 ?rest_3_4_2
      case hi_3_4_2 => (simp [go_sem]; rfl)
      case hw_3_4_2 => rfl
      case hy_3_4_2 => (intro w0 hF0; have hR0 := fun p h => FL.cell (p := p) hF0 h; first | (go_simp; done) | (go_simp; with_reducible rfl))
      case ha_3_4_2 => (go_simp; rfl)
      refine wpT_take (o := ?o_3_4_3) (v := ?v_3_4_3) (a' := ?aa_3_4_3) ?hi_3_4_3 (Or.inl ⟨?hw_3_4_3, ?hy_3_4_3⟩) ?ha_3_4_3 ?rest_3_4_3
      case hi_3_4_3 => (simp [go_sem]; rfl)
      case hw_3_4_3 => rfl
      case hy_3_4_3 => (intro w0 hF0; clear hF0; first | (go_simp; done) | (go_simp; with_reducible rfl))
      case ha_3_4_3 => (go_simp; rfl)
      refine wpT_take (o := ?o_3_4_4) (v := ?v_3_4_4) (a' := ?aa_3_4_4) ?hi_3_4_4 (Or.inl ⟨?hw_3_4_4, ?hy_3_4_4⟩) ?ha_3_4_4 ?rest_3_4_4
      case hi_3_4_4 => (simp [go_sem]; rfl)
      case hw_3_4_4 => rfl
      case hy_3_4_4 => (intro w0 hF0; clear hF0; first | (go_simp; done) | (go_simp; with_reducible rfl))
      case ha_3_4_4 => (go_simp; rfl)
      refine wpT_take (o := ?o_3_4_5) (v := ?v_3_4_5) (a' := ?aa_3_4_5) ?hi_3_4_5 (Or.inl ⟨?hw_3_4_5, ?hy_3_4_5⟩) ?ha_3_4_5 ?rest_3_4_5
      case hi_3_4_5 => (simp [go_sem]; rfl)
      case hw_3_4_5 => rfl
      case hy_3_4_5 => (intro w0 hF0; have hR0 := fun p h => FL.cell (p := p) hF0 h; first | (go_simp; done) | (go_simp; with_reducible rfl))
      case ha_3_4_5 => (go_simp; rfl)
      refine wpT_take (o := ?o_3_4_6) (v := ?v_3_4_6) (a' := ?aa_3_4_6) ?hi_3_4_6 (Or.inl ⟨?hw_3_4_6, ?hy_3_4_6⟩) ?ha_3_4_6 ?rest_3_4_6
      case hi_3_4_6 => (simp [go_sem]; rfl)
      case hw_3_4_6 => rfl
      case hy_3_4_6 => (intro w0 hF0; clear hF0; first | (go_simp; done) | (go_simp; with_reducible rfl))
      case ha_3_4_6 => (go_simp; rfl)
      refine wpT_take (o := ?o_3_4_7) (v := ?v_3_4_7) (a' := ?aa_3_4_7) ?hi_3_4_7 (Or.inl ⟨?hw_3_4_7, ?hy_3_4_7⟩) ?ha_3_4_7 ?rest_3_4_7
      case hi_3_4_7 => (simp [go_sem]; rfl)
      case hw_3_4_7 => rfl
      case hy_3_4_7 => (intro w0 hF0; have hR0 := fun p h => FL.cell (p := p) hF0 h; first | (go_simp; done) | (go_simp; with_reducible rfl))
      case ha_3_4_7 => (go_simp; rfl)
      refine wpT_take (o := ?o_3_4_8) (v := ?v_3_4_8) (a' := ?aa_3_4_8) ?hi_3_4_8 (Or.inl ⟨?hw_3_4_8, ?hy_3_4_8⟩) ?ha_3_4_8 ?rest_3_4_8
      case hi_3_4_8 => (simp [go_sem]; rfl)
      case hw_3_4_8 => rfl
      case hy_3_4_8 => (intro w0 hF0; clear hF0; first | (go_simp; done) | (go_simp; with_reducible rfl))
      case ha_3_4_8 => (go_simp; rfl)
      refine wpT_take (o := ?o_3_4_9) (v := ?v_3_4_9) (a' := ?aa_3_4_9) ?hi_3_4_9 (Or.inl ⟨?hw_3_4_9, ?hy_3_4_9⟩) ?ha_3_4_9 ?rest_3_4_9
      case hi_3_4_9 => (simp [go_sem]; rfl)
      case hw_3_4_9 => rfl
      case hy_3_4_9 => (intro w0 hF0; clear hF0; first | (go_simp; done) | (go_simp; with_reducible rfl))
      case ha_3_4_9 => (go_simp; rfl)
      refine wpT_take (o := ?o_3_4_10) (v := ?v_3_4_10) (a' := ?aa_3_4_10) ?hi_3_4_10 (Or.inl ⟨?hw_3_4_10, ?hy_3_4_10⟩) ?ha_3_4_10 ?rest_3_4_10
      case hi_3_4_10 => (simp [go_sem]; rfl)
      case hw_3_4_10 => rfl
      case hy_3_4_10 => (intro w0 hF0; have hR0 := fun p h => FL.cell (p := p) hF0 h; first | (go_simp; done) | (go_simp; with_reducible rfl))
      case ha_3_4_10 => (go_simp; rfl)
      refine wpT_two (oi := ?oi_3_4_11) (oj := ?oj_3_4_11) ?hi_3_4_11 ?hwi_3_4_11 (by rfl) ?hj_3_4_11 ?hwj_3_4_11 (by rfl) (fun K hK => ?ra_3_4_11) (fun K hK => ?rb_3_4_11)
      case hi_3_4_11 => (simp [go_sem]; rfl)
      case hwi_3_4_11 => rfl
      case hj_3_4_11 => (simp [go_sem]; rfl)
      case hwj_3_4_11 => rfl
      case ra_3_4_11 =>
        go_simp
        refine Calls.mono (FX.out _) ?_
        rintro e w1_ ⟨rfl, hb1_⟩
        have st1_ := BK.next (BK.drew ST0.out) hb1_
        clear d0 d1 d2 df dl dg g0 g1 g2 g3
        go_simp
        refine hK _ _ (FL.of_below hb1_) ?_
        clear hK K
        refine wpT_take (o := ?o_3_4_12) (v := ?v_3_4_12) (a' := ?aa_3_4_12) ?hi_3_4_12 (Or.inl ⟨?hw_3_4_12, ?hy_3_4_12⟩) ?ha_3_4_12 ?rest_3_4_12
        case hi_3_4_12 => (simp [go_sem]; rfl)
        case hw_3_4_12 => rfl
        case hy_3_4_12 => (intro w0 hF0; clear hF0; first | (go_simp; done) | (go_simp; with_reducible rfl))
        case ha_3_4_12 => (go_simp; rfl)
        refine wpT_eff (o := ?o_3_4_13) ?hi_3_4_13 ?hw_3_4_13 (by rfl) (fun K hK => ?rest_3_4_13)
        case hi_3_4_13 => (simp [go_sem]; rfl)
        case hw_3_4_13 => rfl
        go_simp
        refine hK _ _ (FL.alloc _ _) ?_
        clear hK K
        have st2_ := BK.push st1_ 54 [.bool false, .string { data := #[] }, .string { data := #[] }, .int .i64 0] rfl
        refine wpT_tail 13 (fun j hj => by simp; omega) ?_
        simp only [List.drop_succ_cons, List.drop_zero]
        obtain ⟨rc, rf, rl, rg⟩ := BK.cell st2_ 0 rfl
        have r0 := rc 0 _ rfl
        have r1 := rc 1 _ rfl
        have r2 := rc 2 _ rfl
        have r3 := rc 3 _ rfl
        clear rc
        have st9 := BK.set (BK.put3 st2_ 0 rfl 0 (.bool c.neg) (.string c.num) (.string c.den)) 0 rfl 3 (.int .i64 q)
        go_wp2
        go_meet
        first | exact ⟨_, rfl, st9⟩ | exact ⟨_, rfl, BK.push st1_ 54 [.bool c.neg, .string c.num, .string c.den, .int .i64 q] rfl⟩
      case rb_3_4_11 =>
        go_simp
        refine hK _ _ (FL.alloc _ _) ?_
        clear hK K
        have st3_ := BK.push (BK.drew ST0.out) 54 [.bool false, .string { data := #[] }, .string { data := #[] }, .int .i64 0] (b := w.heap.size + 1 + 1) (by simp)
        refine wpT_eff (o := ?o_3_4_15) ?hi_3_4_15 ?hw_3_4_15 (by rfl) (fun K hK => ?rest_3_4_15)
        case hi_3_4_15 => (simp [go_sem]; rfl)
        case hw_3_4_15 => rfl
        go_simp
        refine Calls.mono (FX.out _) ?_
        rintro e w4_ ⟨rfl, hb4_⟩
        have st4_ := BK.next st3_ hb4_
        clear d0 d1 d2 df dl dg g0 g1 g2 g3
        go_simp
        refine hK _ _ (FL.of_below hb4_) ?_
        clear hK K
        refine wpT_take (o := ?o_3_4_16) (v := ?v_3_4_16) (a' := ?aa_3_4_16) ?hi_3_4_16 (Or.inl ⟨?hw_3_4_16, ?hy_3_4_16⟩) ?ha_3_4_16 ?rest_3_4_16
        case hi_3_4_16 => (simp [go_sem]; rfl)
        case hw_3_4_16 => rfl
        case hy_3_4_16 => (intro w0 hF0; clear hF0; first | (go_simp; done) | (go_simp; with_reducible rfl))
        case ha_3_4_16 => (go_simp; rfl)
        refine wpT_tail 13 (fun j hj => by simp; omega) ?_
        simp only [List.drop_succ_cons, List.drop_zero]
        obtain ⟨rc, rf, rl, rg⟩ := BK.cell st4_ 0 rfl
        have r0 := rc 0 _ rfl
        have r1 := rc 1 _ rfl
        have r2 := rc 2 _ rfl
        have r3 := rc 3 _ rfl
        clear rc
        have st9 := BK.set (BK.put3 st4_ 0 rfl 0 (.bool c.neg) (.string c.num) (.string c.den)) 0 rfl 3 (.int .i64 q)
        go_wp2
        go_meet
        first | exact ⟨_, rfl, st9⟩ | exact ⟨_, rfl, BK.push st3_ 54 [.bool c.neg, .string c.num, .string c.den, .int .i64 q] rfl⟩
    case rest =>
      clear FX g0 g1 g2 g3 d0 d1 d2 df dl dg ST0
      obtain ⟨g, rfl, st⟩ := hcut
      have ST1 := hid st
      obtain ⟨rc, rf, rl, rg⟩ := BK.cell st 0 rfl
      clear rc rf st
      go_wp2
      go_loopw [4] (fun i wr => ∃ k : Nat, k ≤ n ∧ i = .int .i64 k ∧ BK w wr [(g, 54, [.bool (enc (gTop l k)).neg, .string (enc (gTop l k)).num, .string (enc (gTop l k)).den, .int .i64 (gSen l k)]), (w.heap.size + 1, 54, [.bool false, .string { data := #[] }, .string { data := #[] }, .int .i64 0]), (w.heap.size, 50, [.int .i64 est, .int .i64 cl, .slice (some ⟨b, off, none⟩) n cap])]) (fun i _ => n - (intOf i).toNat)
      case atStart => exact ⟨0, Nat.zero_le _, rfl, by rw [← HC.out, ← HQ.out]; exact ST1.out⟩
      case round =>
        clear ST1
        obtain ⟨k, hk, rfl, st⟩ := hrel
        obtain ⟨dc, df, dl, dg⟩ := BK.cell st 2 rfl
        have d2 := dc 2 _ rfl
        clear dc
        by_cases hlt : k < n
        · obtain ⟨g0, g1, g2, g3, g4, g5⟩ := H3.out k hlt
          rw [← st.1.cell (p := ⟨b, off + k * 4, none⟩) hbb] at g0
          rw [← st.1.cell (p := ⟨b, off + k * 4 + 1, none⟩) hbb] at g1
          rw [← st.1.cell (p := ⟨b, off + k * 4 + 2, none⟩) hbb] at g2
          have HG3 := hid (fun (W : World) (h : Below w.heap.size w W) => (h.cell (p := ⟨b, off + k * 4 + 3, none⟩) hbb).trans g3)
          clear g3
          have hb3 : (0 : Int) ≤ (k : Int) := by omega
          have hb4 : (k : Int) < (n : Int) := by omega
          have sA := few_amount HF.out k
          have CL := hid (fun w => rMax_any (enc (gTop l k)) (l.getD k oZ).amount 24 24 w (sB_enc (few_top HF.out k)) sA (by decide) (by decide) (by decide) (by decide))
          rw [qOf_enc, show qOf (l.getD k oZ).amount = oq l k from rfl, show qmax (gTop l k) (oq l k) = gTop l (k + 1) from rfl] at CL
          have E4 := hid (show gSen l (k + 1) = min (gSen l k) (ork l k) from rfl)
          rw [show (l.getD k oZ).rank = ork l k from rfl] at HG3
          obtain ⟨x, hx⟩ : ∃ x, x = (l.getD k oZ).amount := ⟨_, rfl⟩
          rw [← hx] at g0 g1 g2 CL
          generalize e6 : gSen l (k + 1) = q' at *
          have E6 := hid e6
          clear e6
          generalize e1 : enc (gTop l (k + 1)) = c1 at *
          generalize enc (gTop l k) = c0 at *
          generalize gSen l k = q0 at *
          generalize ork l k = q2 at *
          have E5 := hid e1
          unfold vRat at CL
          clear hx sA e1
          go_wp2_with fail
          obtain ⟨rc, rf, rl, rg⟩ := BK.cell st 0 rfl
          have r0 := rc 0 _ rfl
          have r1 := rc 1 _ rfl
          have r2 := rc 2 _ rfl
          have r3 := rc 3 _ rfl
          clear rc
          refine wp_region_tree (by kernel_rfl) (.cons 0 true (.cons 1 true (.cons 2 true (.cons 3 true (.cons 4 true (.cons 5 true (.cons 6 true (.cons 7 true (.cons 8 false (.cons 9 true (.cons 10 false .nil))))))))))) (fun i => decide (i < 10)) (by kernel_rfl) (fun _ _ d _ _ h => by cases d <;> exact h) ?_
          refine wpT_take (o := ?o_7_5_18) (v := ?v_7_5_18) (a' := ?aa_7_5_18) ?hi_7_5_18 (Or.inl ⟨?hw_7_5_18, ?hy_7_5_18⟩) ?ha_7_5_18 ?rest_7_5_18
          case hi_7_5_18 => (simp [go_sem]; rfl)
          case hw_7_5_18 => rfl
          case hy_7_5_18 => (intro w0 hF0; clear hF0; first | (go_simp; done) | (go_simp; with_reducible rfl))
          case ha_7_5_18 => (go_simp; rfl)
          refine wpT_take (o := ?o_7_5_19) (v := ?v_7_5_19) (a' := ?aa_7_5_19) ?hi_7_5_19 (Or.inl ⟨?hw_7_5_19, ?hy_7_5_19⟩) ?ha_7_5_19 ?rest_7_5_19
          case hi_7_5_19 => (simp [go_sem]; rfl)
          case hw_7_5_19 => rfl
          case hy_7_5_19 => (intro w0 hF0; have hR0 := fun p h => FL.cell (p := p) hF0 h; first | (go_simp; done) | (go_simp; with_reducible rfl))
          case ha_7_5_19 => (go_simp; rfl)
          refine wpT_take (o := ?o_7_5_20) (v := ?v_7_5_20) (a' := ?aa_7_5_20) ?hi_7_5_20 (Or.inl ⟨?hw_7_5_20, ?hy_7_5_20⟩) ?ha_7_5_20 ?rest_7_5_20
          case hi_7_5_20 => (simp [go_sem]; rfl)
          case hw_7_5_20 => rfl
          case hy_7_5_20 => (intro w0 hF0; clear hF0; first | (go_simp; done) | (go_simp; with_reducible rfl))
          case ha_7_5_20 => (go_simp; rfl)
          refine wpT_take (o := ?o_7_5_21) (v := ?v_7_5_21) (a' := ?aa_7_5_21) ?hi_7_5_21 (Or.inl ⟨?hw_7_5_21, ?hy_7_5_21⟩) ?ha_7_5_21 ?rest_7_5_21
          case hi_7_5_21 => (simp [go_sem]; rfl)
          case hw_7_5_21 => rfl
          case hy_7_5_21 => (intro w0 hF0; have hR0 := fun p h => FL.cell (p := p) hF0 h; first | (go_simp; done) | (go_simp; with_reducible rfl))
          case ha_7_5_21 => (go_simp; rfl)
          refine wpT_take (o := ?o_7_5_22) (v := ?v_7_5_22) (a' := ?aa_7_5_22) ?hi_7_5_22 (Or.inl ⟨?hw_7_5_22, ?hy_7_5_22⟩) ?ha_7_5_22 ?rest_7_5_22
          case hi_7_5_22 => (simp [go_sem]; rfl)
          case hw_7_5_22 => rfl
          case hy_7_5_22 => (intro w0 hF0; clear hF0; first | (go_simp; done) | (go_simp; with_reducible rfl))
          case ha_7_5_22 => (go_simp; rfl)
          refine wpT_take (o := ?o_7_5_23) (v := ?v_7_5_23) (a' := ?aa_7_5_23) ?hi_7_5_23 (Or.inl ⟨?hw_7_5_23, ?hy_7_5_23⟩) ?ha_7_5_23 ?rest_7_5_23
          case hi_7_5_23 => (simp [go_sem]; rfl)
          case hw_7_5_23 => rfl
          case hy_7_5_23 => (intro w0 hF0; clear hF0; first | (go_simp; done) | (go_simp; with_reducible rfl))
          case ha_7_5_23 => (go_simp; rfl)
          refine wpT_take (o := ?o_7_5_24) (v := ?v_7_5_24) (a' := ?aa_7_5_24) ?hi_7_5_24 (Or.inl ⟨?hw_7_5_24, ?hy_7_5_24⟩) ?ha_7_5_24 ?rest_7_5_24
          case hi_7_5_24 => (simp [go_sem]; rfl)
          case hw_7_5_24 => rfl
          case hy_7_5_24 => (intro w0 hF0; clear hF0; first | (go_simp; done) | (go_simp; with_reducible rfl))
          case ha_7_5_24 => (go_simp; rfl)
          refine wpT_take (o := ?o_7_5_25) (v := ?v_7_5_25) (a' := ?aa_7_5_25) ?hi_7_5_25 (Or.inl ⟨?hw_7_5_25, ?hy_7_5_25⟩) ?ha_7_5_25 ?rest_7_5_25
          case hi_7_5_25 => (simp [go_sem]; rfl)
          case hw_7_5_25 => rfl
          case hy_7_5_25 => (intro w0 hF0; have hR0 := fun p h => FL.cell (p := p) hF0 h; first | (go_simp; done) | (go_simp; with_reducible rfl))
          case ha_7_5_25 => (go_simp; rfl)
          refine wpT_eff (o := ?o_7_5_26) ?hi_7_5_26 ?hw_7_5_26 (by rfl) (fun K hK => ?rest_7_5_26)
          case hi_7_5_26 => (simp [go_sem]; rfl)
          case hw_7_5_26 => rfl
          go_simp
          refine Calls.mono (CL.out _) ?_
          rintro e w5_ ⟨rfl, hb5_⟩
          have st5_ := BK.next (BK.drew st) hb5_
          clear d2 df dl dg g0 g1 g2 r0 r1 r2 r3 rf rl rg
          obtain ⟨rc, rf, rl, rg⟩ := BK.cell st5_ 0 rfl
          have r0 := rc 0 _ rfl
          have r1 := rc 1 _ rfl
          have r2 := rc 2 _ rfl
          have r3 := rc 3 _ rfl
          clear rc
          go_simp
          refine hK _ _ (FL.of_below hb5_) ?_
          clear hK K
          refine wpT_take (o := ?o_7_5_27) (v := ?v_7_5_27) (a' := ?aa_7_5_27) ?hi_7_5_27 (Or.inl ⟨?hw_7_5_27, ?hy_7_5_27⟩) ?ha_7_5_27 ?rest_7_5_27
          case hi_7_5_27 => (simp [go_sem]; rfl)
          case hw_7_5_27 => rfl
          case hy_7_5_27 => (intro w0 hF0; clear hF0; first | (go_simp; done) | (go_simp; with_reducible rfl))
          case ha_7_5_27 => (go_simp; rfl)
          refine wpT_tail 10 (fun j hj => by simp; omega) ?_
          simp only [List.drop_succ_cons, List.drop_zero]
          have st9 := BK.put3 st5_ 0 rfl 0 (.bool c1.neg) (.string c1.num) (.string c1.den)
          go_wp2_with fail
          clear r0 r1 r2 r3 rf rl rg st
          have g3 := HG3.out _ st9.1
          obtain ⟨rc, rf, rl, rg⟩ := BK.cell st9 0 rfl
          have r0 := rc 0 _ rfl
          have r1 := rc 1 _ rfl
          have r2 := rc 2 _ rfl
          have r3 := rc 3 _ rfl
          clear rc
          obtain ⟨dc, df, dl, dg⟩ := BK.cell st9 2 rfl
          have d0 := dc 0 _ rfl
          have d1 := dc 1 _ rfl
          have d2 := dc 2 _ rfl
          clear dc
          refine wp_region_tree (by kernel_rfl) (.cons 0 true (.cons 1 true (.cons 2 true (.cons 3 true (.cons 4 true (.cons 5 true (.cons 6 true (.cons 7 true (.cons 8 true (.cons 9 true (.cons 10 false .nil))))))))))) (fun i => decide (i < 10)) (by kernel_rfl) (fun _ _ d _ _ h => by cases d <;> exact h) ?_
          refine wpT_take (o := ?o_8_6_29) (v := ?v_8_6_29) (a' := ?aa_8_6_29) ?hi_8_6_29 (Or.inl ⟨?hw_8_6_29, ?hy_8_6_29⟩) ?ha_8_6_29 ?rest_8_6_29
          case hi_8_6_29 => (simp [go_sem]; rfl)
          case hw_8_6_29 => rfl
          case hy_8_6_29 => (intro w0 hF0; clear hF0; first | (go_simp; done) | (go_simp; with_reducible rfl))
          case ha_8_6_29 => (go_simp; rfl)
          refine wpT_take (o := ?o_8_6_30) (v := ?v_8_6_30) (a' := ?aa_8_6_30) ?hi_8_6_30 (Or.inl ⟨?hw_8_6_30, ?hy_8_6_30⟩) ?ha_8_6_30 ?rest_8_6_30
          case hi_8_6_30 => (simp [go_sem]; rfl)
          case hw_8_6_30 => rfl
          case hy_8_6_30 => (intro w0 hF0; have hR0 := fun p h => FL.cell (p := p) hF0 h; first | (go_simp; done) | (go_simp; with_reducible rfl))
          case ha_8_6_30 => (go_simp; rfl)
          refine wpT_take (o := ?o_8_6_31) (v := ?v_8_6_31) (a' := ?aa_8_6_31) ?hi_8_6_31 (Or.inl ⟨?hw_8_6_31, ?hy_8_6_31⟩) ?ha_8_6_31 ?rest_8_6_31
          case hi_8_6_31 => (simp [go_sem]; rfl)
          case hw_8_6_31 => rfl
          case hy_8_6_31 => (intro w0 hF0; clear hF0; first | (go_simp; done) | (go_simp; with_reducible rfl))
          case ha_8_6_31 => (go_simp; rfl)
          refine wpT_take (o := ?o_8_6_32) (v := ?v_8_6_32) (a' := ?aa_8_6_32) ?hi_8_6_32 (Or.inl ⟨?hw_8_6_32, ?hy_8_6_32⟩) ?ha_8_6_32 ?rest_8_6_32
          case hi_8_6_32 => (simp [go_sem]; rfl)
          case hw_8_6_32 => rfl
          case hy_8_6_32 => (intro w0 hF0; have hR0 := fun p h => FL.cell (p := p) hF0 h; first | (go_simp; done) | (go_simp; with_reducible rfl))
          case ha_8_6_32 => (go_simp; rfl)
          refine wpT_take (o := ?o_8_6_33) (v := ?v_8_6_33) (a' := ?aa_8_6_33) ?hi_8_6_33 (Or.inl ⟨?hw_8_6_33, ?hy_8_6_33⟩) ?ha_8_6_33 ?rest_8_6_33
          case hi_8_6_33 => (simp [go_sem]; rfl)
          case hw_8_6_33 => rfl
          case hy_8_6_33 => (intro w0 hF0; clear hF0; first | (go_simp; done) | (go_simp; with_reducible rfl))
          case ha_8_6_33 => (go_simp; rfl)
          refine wpT_take (o := ?o_8_6_34) (v := ?v_8_6_34) (a' := ?aa_8_6_34) ?hi_8_6_34 (Or.inl ⟨?hw_8_6_34, ?hy_8_6_34⟩) ?ha_8_6_34 ?rest_8_6_34
          case hi_8_6_34 => (simp [go_sem]; rfl)
          case hw_8_6_34 => rfl
          case hy_8_6_34 => (intro w0 hF0; clear hF0; first | (go_simp; done) | (go_simp; with_reducible rfl))
          case ha_8_6_34 => (go_simp; rfl)
          refine wpT_take (o := ?o_8_6_35) (v := ?v_8_6_35) (a' := ?aa_8_6_35) ?hi_8_6_35 (Or.inl ⟨?hw_8_6_35, ?hy_8_6_35⟩) ?ha_8_6_35 ?rest_8_6_35
          case hi_8_6_35 => (simp [go_sem]; rfl)
          case hw_8_6_35 => rfl
          case hy_8_6_35 => (intro w0 hF0; clear hF0; first | (go_simp; done) | (go_simp; with_reducible rfl))
          case ha_8_6_35 => (go_simp; rfl)
          refine wpT_take (o := ?o_8_6_36) (v := ?v_8_6_36) (a' := ?aa_8_6_36) ?hi_8_6_36 (Or.inl ⟨?hw_8_6_36, ?hy_8_6_36⟩) ?ha_8_6_36 ?rest_8_6_36
          case hi_8_6_36 => (simp [go_sem]; rfl)
          case hw_8_6_36 => rfl
          case hy_8_6_36 => (intro w0 hF0; have hR0 := fun p h => FL.cell (p := p) hF0 h; first | (go_simp; done) | (go_simp; with_reducible rfl))
          case ha_8_6_36 => (go_simp; rfl)
          refine wpT_take (o := ?o_8_6_37) (v := ?v_8_6_37) (a' := ?aa_8_6_37) ?hi_8_6_37 (Or.inl ⟨?hw_8_6_37, ?hy_8_6_37⟩) ?ha_8_6_37 ?rest_8_6_37
          case hi_8_6_37 => (simp [go_sem]; rfl)
          case hw_8_6_37 => rfl
          case hy_8_6_37 => (intro w0 hF0; clear hF0; first | (go_simp; done) | (go_simp; with_reducible rfl))
          case ha_8_6_37 => (go_simp; rfl)
          refine wpT_take (o := ?o_8_6_38) (v := ?v_8_6_38) (a' := ?aa_8_6_38) ?hi_8_6_38 (Or.inl ⟨?hw_8_6_38, ?hy_8_6_38⟩) ?ha_8_6_38 ?rest_8_6_38
          case hi_8_6_38 => (simp [go_sem]; rfl)
          case hw_8_6_38 => rfl
          case hy_8_6_38 => (intro w0 hF0; clear hF0; first | (go_simp; done) | (go_simp; with_reducible rfl))
          case ha_8_6_38 => (go_simp; rfl)
          refine wpT_tail 10 (fun j hj => by simp; omega) ?_
          simp only [List.drop_succ_cons, List.drop_zero]
          have st10 := BK.set (BK.drew st9) 0 rfl 3 (.int .i64 (min q0 q2))
          go_wp2
          go_roundw
          case rel => exact ⟨k + 1, hlt, by go_num, by rw [E6.out, E4.out, E5.out]; exact st10⟩
          case measure => simp [intOf]; omega
        · have hk' : k = n := by omega
          rw [← hk'] at EV
          generalize enc (gTop l k) = x at *
          generalize gSen l k = q at *
          have ST := hid st
          clear hk' hk
          obtain ⟨oc, of, ol, og⟩ := BK.cell st 1 rfl
          have o0 := oc 0 _ rfl
          have o1 := oc 1 _ rfl
          have o2 := oc 2 _ rfl
          have o3 := oc 3 _ rfl
          clear oc
          obtain ⟨rc, rf, rl, rg⟩ := BK.cell st 0 rfl
          have r0 := rc 0 _ rfl
          have r1 := rc 1 _ rfl
          have r2 := rc 2 _ rfl
          have r3 := rc 3 _ rfl
          clear rc
          clear st
          have ST9 := hid (BK.set (BK.put3 ST.out 1 rfl 0 (.bool x.neg) (.string x.num) (.string x.den)) 1 rfl 3 (.int .i64 q))
          go_wp2
          refine ret_bk (.agg #[.bool x.neg, .string x.num, .string x.den, .int .i64 q]) ST9.out 1 rfl (fun W_ c_ => by have c0_ := c_ 0 _ rfl; have c1_ := c_ 1 _ rfl; have c2_ := c_ 2 _ rfl; have c3_ := c_ 3 _ rfl; simp [results, Tryd.results31, go_sem, c0_, c1_, c2_, c3_]) rfl ⟨by rw [EV.out], ST9.out.1⟩

end Go.Proofs.YtgmedcncbpdimaaDoor
