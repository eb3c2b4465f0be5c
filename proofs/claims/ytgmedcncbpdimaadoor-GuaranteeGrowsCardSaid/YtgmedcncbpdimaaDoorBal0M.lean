/- GuaranteeBalance: walked. -/
import Derived.Test.YtgmedcncbpdimaaDoorLast0M
import Derived.Test.YtgmedcncbpdimaaDoorGu5M
import Derived.Test.YtgmedcncbpdimaaDoorGu6M
set_option linter.unusedVariables false
set_option linter.unusedSimpArgs false
set_option linter.unusedSectionVars false
/- GuaranteeBalance: walked. -/
namespace Go.Proofs.YtgmedcncbpdimaaDoor
open Go.RowKit
attribute [local go_sem ↓] Go.wp_at_zero Go.wp_at_succ

section
variable {P : Program} {ops : Array Oper} {Q : Exit → Act → World → Prop} {md : Region.Mode}
theorem wpAny_skipF {i j s : Nat} {oi oj : Oper} {fuel : Nat} {listed : Array Bool} {a a' : Act} {w : World} (hs : Region.noSelect ops = true) (hf : Region.free md ops listed i = true)
    (hr : (Region.ready md ops listed).contains i = true) (hQ : ∀ c a w, Q (.panic c) (a.put oi.dst undef) w → Q (.panic c) a w) (hi : ops[i]? = some oi) (hg : oi.guard = some (j, false)) (hj : ops[j]? = some oj) (hd : oj.dst = some s)
    (hv : a.tmps[s]? = some (.bool true)) (ha : a.put oi.dst undef = a')
    (h : wpAny P md ops Q fuel (listed.setIfInBounds i true) a' w) : wpAny P md ops Q (fuel + 1) listed a w :=
  wpAny_take hi hs hf hr hQ (Or.inr ⟨by simp [Region.wanted, hg, yielded, hj, hd, hv], rfl⟩) (ha ▸ h)
end

theorem Kept_q (W : Rat) (v : Value) (ds : List Rat) (m : Nat) (w : World) (hm : m ≤ 1000) (hm0 : 0 < m) (hW : sB m (enc W)) (hl : ds.length ≤ 1000) (hs : ∀ r ∈ ds.map enc, sB m r) (hv : RL w v (ds.map enc)) :
    Calls Tryd.prog 19 #[vRat (enc W), v] w fun e w' => e = .returned (vRat (enc (gK W ds))) ∧ Below w.heap.size w w' := by
  have := Kept_any (enc W) v (ds.map enc) m w hm hm0 hW (by simpa using hl) hs hv
  rw [qOf_enc, qL_enc] at this
  exact this
theorem Sum_q (v : Value) (ds : List Rat) (m : Nat) (w : World) (hm : m ≤ 1000) (hm0 : 0 < m) (hl : ds.length ≤ 1000) (hs : ∀ r ∈ ds.map enc, sB m r) (hv : RL w v (ds.map enc)) :
    Calls Tryd.prog 27 #[v] w fun e w' => e = .returned (vRat (enc (gSum ds ds.length))) ∧ Below w.heap.size w w' := by
  have := Sum_any v (ds.map enc) m w hm hm0 (by simpa using hl) hs hv
  rw [qL_enc, List.length_map] at this
  exact this
theorem gR_sB {W : Rat} {ds : List Rat} (hW : qB 1 W) (hd : ∀ k, qB 1 (ds.getD k 0)) (hl : ds.length ≤ 10) : ∀ r ∈ (gR W ds).map enc, sB 200 r := by
  intro r hr
  obtain ⟨q, hq, rfl⟩ := List.mem_map.1 hr
  obtain ⟨j, hj, rfl⟩ := List.mem_map.1 hq
  have hj' : j < ds.length := by simpa using hj
  exact (sB_enc ((gO_qB hW hd (by decide) (j + 1)).sub (gO_qB hW hd (by decide) j))).mono (by omega)
theorem gR_qB {W : Rat} {ds : List Rat} (hW : qB 1 W) (hd : ∀ k, qB 1 (ds.getD k 0)) (hl : ds.length ≤ 10) (k : Nat) : qB 200 ((gR W ds).getD k 0) := by
  rcases Nat.lt_or_ge k ds.length with h | h
  · rw [gR_get _ _ _ h]
    exact ((gO_qB hW hd (by decide) (k + 1)).sub (gO_qB hW hd (by decide) k)).mono (by omega)
  · have e : (gR W ds).getD k 0 = 0 := by simp only [List.getD, List.getElem?_eq_none (show (gR W ds).length ≤ k by rw [gR_len]; exact h), Option.getD_none]
    rw [e]; exact qB_zero.mono (by decide)
theorem gK_qB {W : Rat} {ds : List Rat} (hW : qB 1 W) (hd : ∀ k, qB 1 (ds.getD k 0)) (hl : ds.length ≤ 10) : qB 200 (gK W ds) := by
  unfold gK qmin
  split
  · exact (gS_qB hd (by decide) _).mono (by omega)
  · exact (qpos_qB hW).mono (by decide)
theorem qCmp_le {a b : Rat} (h : a ≤ b) : qCmp a b ≤ 0 := by unfold qCmp; grind
theorem qSgn_nn {q : Rat} (h : 0 ≤ q) : 0 ≤ qSgn q := by unfold qSgn qCmp; grind
theorem qSgn_z {q : Rat} (h : qSgn q ≠ 0) : q ≠ 0 := by intro e; subst e; exact h (by unfold qSgn qCmp; grind)

set_option maxRecDepth 100000 in
set_option maxHeartbeats 4000000 in
theorem balance_walk (v0 v1 : Value) (x : Nat) (xs : List Nat) (w : World) (h0 : rU16 w (LT w.heap.size) [v0] x) (hv : rSlice 1 rU16 w (LT w.heap.size) [v1] xs) :
    Calls Tryd.prog 8 #[v0, v1] w fun e w' => e = .returned (.bool true) ∧ Below w.heap.size w w' := by
  obtain ⟨h1, h2⟩ := h0
  simp only [List.cons.injEq, and_true] at h1
  subst h1
  have A1 := hid (fun w => Amount_any x w h2)
  have A2 := hid (fun (w' : World) (hb : Below w.heap.size w w') => Amounts_q v1 xs 8 w' (by decide) ((stays_rSlice stays_rU16).below hv hb hb.size))
  have hl10 : (amts xs 8).length ≤ 10 := Nat.le_trans (amts_len xs 8) (by decide)
  have R := hid (fun (v : Value) (w : World) (h : RL w v ((amts xs 8).map enc)) => Refunds_q (qAmt x) v (amts xs 8) 1 w (by decide) (by decide) (sB_enc (amt_qB x)) (Nat.le_trans hl10 (by decide)) (amts_sB xs 8) h)
  have K := hid (fun (v : Value) (w : World) (h : RL w v ((amts xs 8).map enc)) => Kept_q (qAmt x) v (amts xs 8) 1 w (by decide) (by decide) (sB_enc (amt_qB x)) (Nat.le_trans hl10 (by decide)) (amts_sB xs 8) h)
  have SD := hid (fun (v : Value) (w : World) (h : RL w v ((amts xs 8).map enc)) => Sum_q v (amts xs 8) 1 w (by decide) (by decide) (Nat.le_trans hl10 (by decide)) (amts_sB xs 8) h)
  have SR := hid (fun (v : Value) (w : World) (h : RL w v ((gR (qAmt x) (amts xs 8)).map enc)) => Sum_q v (gR (qAmt x) (amts xs 8)) 200 w (by decide) (by decide) (by rw [gR_len]; exact Nat.le_trans hl10 (by decide)) (gR_sB (amt_qB x) (amts_qB xs 8) hl10) h)
  have LB := law_balance (w := qAmt x) (l := amts xs 8) (amt_nonneg x) (amts_nonneg xs 8)
  have LB1 := hid (fun i => law_balance1 (w := qAmt x) (l := amts xs 8) (amts_nonneg xs 8) (i := i))
  have QR := hid (gR_qB (amt_qB x) (amts_qB xs 8) hl10)
  have QD := hid (amts_qB xs 8)
  have QK := gK_qB (amt_qB x) (amts_qB xs 8) hl10
  have QS : qB 5000 (gSum (gR (qAmt x) (amts xs 8)) (amts xs 8).length) := (gSum_qB QR.out (by decide) _).mono (by omega)
  have QA := amt_qB x
  have AW := hid awake18_any
  have hdl := amts_len xs 8
  have hrl := gR_len (qAmt x) (amts xs 8)
  generalize amts xs 8 = ds at *
  generalize gR (qAmt x) ds = rs at *
  rw [hrl] at SR
  have AD := hid (fun w => qAdd_any (enc (gSum rs ds.length)) (enc (gK (qAmt x) ds)) 5000 200 w (sB_enc QS) (sB_enc QK) (by decide) (by decide) (by decide) (by decide))
  rw [qOf_enc, qOf_enc, LB.1] at AD
  have CK := hid (fun w => qCompare_any (enc (gK (qAmt x) ds)) (enc (qAmt x)) 200 1 w (sB_enc QK) (sB_enc QA) (by decide) (by decide) (by decide) (by decide))
  rw [qOf_enc, qOf_enc] at CK
  have ck := qCmp_le LB.2.1
  generalize qCmp (gK (qAmt x) ds) (qAmt x) = ckv at *
  have SZ := hid (fun w => qSign_any (enc (gSum rs ds.length)) w (Nat.le_trans (sB_enc QS).1 (by decide)) (Nat.le_trans (sB_enc QS).2 (by decide)))
  rw [qOf_enc] at SZ
  have hz := LB.2.2
  have hz' : qSgn (gSum rs ds.length) ≠ 0 → enc (gK (qAmt x) ds) = enc (qAmt x) := fun h => by rw [hz.resolve_left (qSgn_z h)]
  have HZ := hid hz'
  obtain ⟨n, hn⟩ : ∃ n, n = ds.length := ⟨_, rfl⟩
  generalize qSgn (gSum rs ds.length) = sz at *
  generalize enc (gSum rs ds.length) = sr at *
  generalize enc (gSum ds ds.length) = sd at *
  generalize enc (gK (qAmt x) ds) = kk at *
  generalize enc (qAmt x) = q at *
  have HRL := hid hrl
  have HDL := hid hn
  rw [← hn] at hdl
  have hck : decide ((0 : Int) < ckv) = false := by simp; omega
  have CKH := hid hck
  clear hrl hn hv h2 LB QS QK hz hz' QA hl10 ck hck
  unfold vRat at A1 R K SD SR AD CK SZ
  go_enter Tryd.func8, Tryd.ntmps8
  go_wp2_with fail
  refine Calls.mono (A1.out _) ?_
  rintro e w1 ⟨rfl, hb1⟩
  go_wp2_with fail
  refine Calls.mono (A2.out _ hb1) ?_
  rintro e w2 ⟨v, rfl, hd, hb2⟩
  have hd2 := hd.below ((Below.refl _ _).alloc (Nat.le_refl _) (.cells #[.bool q.neg, .string q.num, .string q.den] 25))
  have hb := hid ((hb1.step hb2).alloc (Below.size (hb1.step hb2)) (.cells #[.bool q.neg, .string q.num, .string q.den] 25))
  have bq := Bx.new w2 q
  have HD2 := hid hd2
  clear hd hd2 hb1 hb2
  go_wp2_with fail
  refine Calls.mono (R.out _ _ HD2.out) ?_
  rintro e w3 ⟨u, rfl, hr, hb3⟩
  have hd3 := HD2.out.below hb3
  have bq3 := bq.below hb3
  have hbw := hb.out.step hb3
  have HR := hid hr
  have HD3 := hid hd3
  have HBW := hid hbw
  have HBQ := hid bq3
  obtain ⟨s0, s1, s2, s3, s4⟩ := bq3.facts
  clear hr hd3 hbw bq3 bq HD2 hb hb3
  go_wp2_with fail
  refine Calls.mono (K.out _ _ HD3.out) ?_
  rintro e w4 ⟨rfl, hb4⟩
  clear s0 s1 s2 s3 s4
  have hbox := (Below.refl w4.heap.size w4).alloc (Nat.le_refl _) (.cells #[.bool kk.neg, .string kk.num, .string kk.den] 25)
  have bk := Bx.new w4 kk
  have f1 := (HR.out.below hb4).below hbox
  have f2 := (HD3.out.below hb4).below hbox
  have f3 := (HBQ.out.below hb4).below hbox
  have f4 := (HBW.out.step hb4).step hbox
  obtain ⟨W0, hW0⟩ : ∃ W0, W0 = w4.alloc (.cells #[.bool kk.neg, .string kk.num, .string kk.den] 25) := ⟨_, rfl⟩
  rw [← hW0] at f1 f2 f3 f4 bk
  obtain ⟨da, dc, rfl, d1, d2⟩ := RQ.open f2
  obtain ⟨ra, rc, rfl, r1, r2⟩ := RQ.open f1
  have G := hid (fun (W : World) (hb : Below W0.heap.size W0 W) => (⟨f3.below hb, bk.below hb⟩ : Bx W w2.heap.size q ∧ Bx W w4.heap.size kk))
  have GR := hid (fun (W : World) (hb : Below W0.heap.size W0 W) => f1.below hb)
  have GD := hid (fun (W : World) (hb : Below W0.heap.size W0 W) => f2.below hb)
  have HD := hid d2
  have HRR := hid r2
  have HF4 := hid f4
  rw [HRL.out, ← HDL.out] at GR r1 ⊢
  rw [← HDL.out] at GD d1
  clear f1 f2 f3 f4 bk d2 r2 hbox hb4 HR HD3 HBW HBQ R K A1 A2
  go_wp2_with fail
  rw [← hW0]
  obtain ⟨⟨p0, p1, p2, p3, p4⟩, ⟨q0, q1, q2, q3, q4⟩⟩ := And.intro (G.out _ (Below.refl _ _)).1.facts (G.out _ (Below.refl _ _)).2.facts
  have hW1 := hid hW0
  clear hW0
  go_region_held3 (fun w' => w'.cell? ⟨w2.heap.size, 0, none⟩ = some (.bool q.neg) ∧ w'.cell? ⟨w2.heap.size, 1, none⟩ = some (.string q.num) ∧ w'.cell? ⟨w2.heap.size, 2, none⟩ = some (.string q.den) ∧ w'.cell? ⟨w4.heap.size, 0, none⟩ = some (.bool kk.neg) ∧ w'.cell? ⟨w4.heap.size, 1, none⟩ = some (.string kk.num) ∧ w'.cell? ⟨w4.heap.size, 2, none⟩ = some (.string kk.den)) (go_keep)
    (first
      | (go_at_call_of 27 ra; refine Calls.mono (SR.out _ _ (GR.out _ (Below.drew (Below.refl _ _)))) ?_; rintro e wa ⟨rfl, hba⟩; have ha := Below.step (Below.drew (Below.refl W0.heap.size W0)) hba; clear p0 p1 p2 p3 p4 q0 q1 q2 q3 q4; obtain ⟨⟨p0, p1, p2, p3, p4⟩, ⟨q0, q1, q2, q3, q4⟩⟩ := And.intro (G.out _ ha).1.facts (G.out _ ha).2.facts)
      | (go_at_call 21; refine Calls.mono (AD.out _) ?_; rintro e wb ⟨rfl, hbb⟩; have hb := Below.step ha hbb; clear p0 p1 p2 p3 p4 q0 q1 q2 q3 q4; obtain ⟨⟨p0, p1, p2, p3, p4⟩, ⟨q0, q1, q2, q3, q4⟩⟩ := And.intro (G.out _ hb).1.facts (G.out _ hb).2.facts)
      | (go_at_call_of 27 da; refine Calls.mono (SD.out _ _ (GD.out _ hb)) ?_; rintro e wc ⟨rfl, hbc⟩; have hc := Below.step hb hbc; clear p0 p1 p2 p3 p4 q0 q1 q2 q3 q4; obtain ⟨⟨p0, p1, p2, p3, p4⟩, ⟨q0, q1, q2, q3, q4⟩⟩ := And.intro (G.out _ hc).1.facts (G.out _ hc).2.facts)
      | (go_at_call 22; refine Calls.mono (CK.out _) ?_; rintro e wd ⟨rfl, hbd⟩; have hd := Below.step hc hbd; clear p0 p1 p2 p3 p4 q0 q1 q2 q3 q4; obtain ⟨⟨p0, p1, p2, p3, p4⟩, ⟨q0, q1, q2, q3, q4⟩⟩ := And.intro (G.out _ hd).1.facts (G.out _ hd).2.facts; have hck := CKH.out))
  have HE := hid hd
  clear ha hb hc hd hck
  go_wp2
  go_loopw [9, 42] (fun _ i wr => ∃ k : Nat, k ≤ n ∧ i = .int .i64 k ∧ Below W0.heap.size W0 wr) (fun _ i _ => n - (intOf i).toNat)
  case atStart => exact ⟨0, Nat.zero_le _, rfl, HE.out⟩
  case round =>
    obtain ⟨i, hi, rfl, hbo⟩ := hrel
    by_cases hlt : i < n
    · have hne1 : ds ≠ [] := by intro h; have := HDL.out; rw [h] at this; simp at this; omega
      have hne2 : rs ≠ [] := by intro h; have := HDL.out; have h3 := HRL.out; rw [h] at h3; simp at h3; rw [← h3] at this; omega
      obtain ⟨db, doff, rfl, hdb, hdc⟩ := HD.out.resolve_left hne1
      obtain ⟨rb, roff, rfl, hrb, hrc⟩ := HRR.out.resolve_left hne2
      rw [← HDL.out] at hdc
      rw [HRL.out, ← HDL.out] at hrc
      have K1 := hrc i hlt
      have K2 := hdc i hlt
      have SG := hid (fun w => qSign_any (enc (rs.getD i 0)) w (Nat.le_trans (sB_enc (QR.out i)).1 (by decide)) (Nat.le_trans (sB_enc (QR.out i)).2 (by decide)))
      have CM := hid (fun w => qCompare_any (enc (rs.getD i 0)) (enc (ds.getD i 0)) 200 1 w (sB_enc (QR.out i)) (sB_enc (QD.out i)) (by decide) (by decide) (by decide) (by decide))
      rw [qOf_enc] at SG
      rw [qOf_enc, qOf_enc] at CM
      have hL := LB1.out i (by have := HDL.out; omega)
      have e1 := qSgn_nn hL.1
      have e2 := qCmp_le hL.2
      have hb3 : (0 : Int) ≤ (i : Int) := by omega
      have hb4 : (i : Int) < (n : Int) := by omega
      generalize qSgn (rs.getD i 0) = sg at *
      generalize qCmp (rs.getD i 0) (ds.getD i 0) = cm at *
      generalize enc (rs.getD i 0) = y at *
      generalize enc (ds.getD i 0) = z at *
      have HK := hid (fun (W : World) (hb : Below W0.heap.size W0 W) => (⟨C3.below K1 hb hrb, C3.below K2 hb hdb⟩ : C3 W rb (roff + i * 3) y ∧ C3 W db (doff + i * 3) z))
      have f1 : decide (sg < (0 : Int)) = false := by simp; omega
      have f2 : decide ((0 : Int) < cm) = false := by simp; omega
      have F1 := hid f1
      have F2 := hid f2
      unfold vRat at SG CM
      have HBO := hid hbo
      obtain ⟨⟨p0, p1, p2⟩, ⟨q0, q1, q2⟩⟩ := HK.out _ hbo
      clear hL K1 K2 hdc hrc hne1 hne2 e1 e2 f1 f2 hbo
      go_wp2_with fail
      go_region_held3 (fun w' => w'.cell? ⟨rb, roff + i * 3, none⟩ = some (.bool y.neg) ∧ w'.cell? ⟨rb, roff + i * 3 + 1, none⟩ = some (.string y.num) ∧ w'.cell? ⟨rb, roff + i * 3 + 2, none⟩ = some (.string y.den) ∧ w'.cell? ⟨db, doff + i * 3, none⟩ = some (.bool z.neg) ∧ w'.cell? ⟨db, doff + i * 3 + 1, none⟩ = some (.string z.num) ∧ w'.cell? ⟨db, doff + i * 3 + 2, none⟩ = some (.string z.den)) (go_keep)
        (first
          | (go_at_call 13; refine Calls.mono (SG.out _) ?_; rintro e wa ⟨rfl, hba⟩; have ha := Below.step (Below.drew HBO.out) hba; clear p0 p1 p2 q0 q1 q2; obtain ⟨⟨p0, p1, p2⟩, ⟨q0, q1, q2⟩⟩ := HK.out _ ha; have g1 := F1.out)
          | (go_at_call 22; refine Calls.mono (CM.out _) ?_; rintro e wb ⟨rfl, hbb⟩; have hb := Below.step ha hbb; clear p0 p1 p2 q0 q1 q2; obtain ⟨⟨p0, p1, p2⟩, ⟨q0, q1, q2⟩⟩ := HK.out _ hb; have g2 := F2.out))
      have HB := hid hb
      clear ha hb p0 p1 p2 q0 q1 q2 hba hbb
      go_wp2
      go_roundw
      case rel => exact ⟨i + 1, hlt, by go_num, HB.out⟩
      case measure => simp [intOf]; omega
    · obtain ⟨⟨p0, p1, p2, p3, p4⟩, ⟨q0, q1, q2, q3, q4⟩⟩ := And.intro (G.out _ hbo).1.facts (G.out _ hbo).2.facts
      have HBO := hid hbo
      clear hbo
      by_cases hz : sz = 0
      · subst hz
        go_wp2_with fail
        refine Calls.mono (AW.out _) ?_
        rintro e wa ⟨rfl, hba⟩
        have ha := Below.step HBO.out hba
        clear p0 p1 p2 p3 p4 q0 q1 q2 q3 q4
        go_wp2_with fail
        refine Calls.mono (SR.out _ _ (GR.out _ ha)) ?_
        rintro e wb ⟨rfl, hbb⟩
        have hb := Below.step ha hbb
        go_wp2_with fail
        refine Calls.mono (SZ.out _) ?_
        rintro e wc ⟨rfl, hbc⟩
        have hc := Below.step hb hbc
        obtain ⟨⟨p0, p1, p2, p3, p4⟩, ⟨q0, q1, q2, q3, q4⟩⟩ := And.intro (G.out _ hc).1.facts (G.out _ hc).2.facts
        go_wp2
        go_ret
        exact ⟨rfl, Below.step HF4.out hc⟩
      · have hk := HZ.out hz
        subst hk
        go_wp2_with fail
        refine Calls.mono (AW.out _) ?_
        rintro e wa ⟨rfl, hba⟩
        have ha := Below.step HBO.out hba
        clear p0 p1 p2 p3 p4 q0 q1 q2 q3 q4
        go_wp2_with fail
        refine Calls.mono (SR.out _ _ (GR.out _ ha)) ?_
        rintro e wb ⟨rfl, hbb⟩
        have hb := Below.step ha hbb
        go_wp2_with fail
        refine Calls.mono (SZ.out _) ?_
        rintro e wc ⟨rfl, hbc⟩
        have hc := Below.step hb hbc
        obtain ⟨⟨p0, p1, p2, p3, p4⟩, ⟨q0, q1, q2, q3, q4⟩⟩ := And.intro (G.out _ hc).1.facts (G.out _ hc).2.facts
        have hzd : decide (sz = (0 : Int)) = false := by simpa using hz
        go_wp2
        go_ret
        exact ⟨rfl, Below.step HF4.out hc⟩

end Go.Proofs.YtgmedcncbpdimaaDoor
