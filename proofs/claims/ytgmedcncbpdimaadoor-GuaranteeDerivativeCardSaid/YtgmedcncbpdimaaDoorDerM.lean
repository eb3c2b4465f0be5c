/- GuaranteeDerivative: walked. -/
import Derived.Test.YtgmedcncbpdimaaDoorGuAM
import Derived.Test.YtgmedcncbpdimaaDoorBkM
import Derived.Test.YtgmedcncbpdimaaDoorCmp1M
set_option linter.unusedVariables false
set_option linter.unusedSimpArgs false
/- GuaranteeDerivative: walked. -/
namespace Go.Proofs.YtgmedcncbpdimaaDoor
open Go.RowKit
attribute [local go_sem ↓] Go.wp_at_zero Go.wp_at_succ

theorem Rates_q (W : Rat) (v u : Value) (ds ss : List Rat) (m : Nat) (w : World) (hm : m ≤ 1000) (hm0 : 0 < m) (hW : sB m (enc W)) (hl : ds.length ≤ 1000) (hs : ∀ r ∈ ds.map enc, sB m r) (ht : ∀ r ∈ ss.map enc, sB m r) (hv : RL w v (ds.map enc)) (hu : RL w u (ss.map enc)) :
    Calls Tryd.prog 23 #[vRat (enc W), v, u] w fun e w' => ∃ u, e = .returned u ∧ RL w' u ((gQ W ds ss).map enc) ∧ Below w.heap.size w w' := by
  have := Rates_any (enc W) v u (ds.map enc) (ss.map enc) m w hm hm0 hW (by simpa using hl) hs ht hv hu
  rw [qOf_enc, qL_enc, qL_enc] at this
  exact this
theorem RQ.cells {w : World} {a : Option Addr} {n c : Nat} {qs : List Rat} (h : RL w (.slice a n c) (qs.map enc)) : qs = [] ∨ ∃ b off, a = some ⟨b, off, none⟩ ∧ b < w.heap.size ∧ ∀ j, j < qs.length → C3 w b (off + j * 3) (enc (qs.getD j 0)) := by
  obtain ⟨a', cap, e, _, h2⟩ := RQ.open h
  simp only [Value.slice.injEq] at e
  obtain ⟨rfl, _, _⟩ := e
  exact h2
theorem RQ.len {w : World} {v : Value} {qs : List Rat} {n : Nat} (h : RL w v (qs.map enc)) (hn : n = qs.length) : ∃ a cap, v = .slice a n cap := by
  obtain ⟨a', cap, e, _, h2⟩ := RQ.open h
  exact ⟨a', cap, by rw [e, hn]⟩
def hS : Rat := mkRat 1 1048576
theorem hS_eq : hS = 1 / 1048576 := by unfold hS; rw [Rat.mkRat_eq_div]; rfl
theorem hS_nn : 0 ≤ hS := by rw [hS_eq]; decide +kernel
theorem hS_small : hS * 180 * 60 ≤ 1 := by rw [hS_eq]; decide +kernel
theorem hS_qB : qB 3 hS := qB_mkRat (by decide) (by decide) (by decide)
theorem more_len (h : Rat) (l s : List Rat) : (more h l s).length = l.length := by simp [more]
theorem more_take (h : Rat) (l s : List Rat) (k : Nat) (hk : k < l.length) : (more h l s).take k ++ [l.getD k 0 + h * s.getD k 0] = (more h l s).take (k + 1) := by
  have h1 : k < (more h l s).length := by rw [more_len]; exact hk
  rw [List.take_succ_eq_append_getElem h1]
  congr 2
  simp [more]
theorem more_qB6 {ds ss : List Rat} (hd : ∀ k, qB 1 (ds.getD k 0)) (hs : ∀ k, qB 1 (ss.getD k 0)) (k : Nat) : qB 6 (ds.getD k 0 + hS * ss.getD k 0) := ((hd k).add (hS_qB.mul (hs k))).mono (by decide)
theorem more_sB6 {ds ss : List Rat} (hd : ∀ k, qB 1 (ds.getD k 0)) (hs : ∀ k, qB 1 (ss.getD k 0)) : ∀ r ∈ (more hS ds ss).map enc, sB 6 r := by
  intro r hr
  obtain ⟨q, hq, rfl⟩ := List.mem_map.1 hr
  obtain ⟨j, hj, rfl⟩ := List.mem_map.1 hq
  exact sB_enc (more_qB6 hd hs j)
theorem gR_qB1 {W : Rat} {ds : List Rat} (hW : qB 1 W) (hd : ∀ k, qB 1 (ds.getD k 0)) (hl : ds.length ≤ 10) (k : Nat) : qB 1000 ((gR W ds).getD k 0) := by
  rcases Nat.lt_or_ge k ds.length with h | h
  · rw [gR_get _ _ _ h]
    exact ((gO_qB hW hd (by decide) (k + 1)).sub (gO_qB hW hd (by decide) k)).mono (by omega)
  · have e : (gR W ds).getD k 0 = 0 := by simp only [List.getD, List.getElem?_eq_none (show (gR W ds).length ≤ k by rw [gR_len]; exact h), Option.getD_none]
    rw [e]; exact qB_zero.mono (by decide)
theorem gQ_qB1 {W : Rat} {ds ss : List Rat} (hs : ∀ k, qB 1 (ss.getD k 0)) (hl : ds.length ≤ 10) (k : Nat) : qB 1000 ((gQ W ds ss).getD k 0) := by
  rcases Nat.lt_or_ge k ds.length with h | h
  · rw [gQ_get _ _ _ _ h]
    exact ((gV_qB hs (by decide) (k + 1)).sub (gV_qB hs (by decide) k)).mono (by omega)
  · have e : (gQ W ds ss).getD k 0 = 0 := by simp only [List.getD, List.getElem?_eq_none (show (gQ W ds ss).length ≤ k by rw [gQ_len]; exact h), Option.getD_none]
    rw [e]; exact qB_zero.mono (by decide)
theorem amts_grid (xs : List Nat) (n : Nat) : ∀ x ∈ amts xs n, OnGrid x := by
  intro x hx
  obtain ⟨y, _, rfl⟩ := List.mem_map.1 hx
  exact amt_grid y
theorem amts_le (xs : List Nat) (n : Nat) : ∀ x ∈ amts xs n, x ≤ 30 := by
  intro x hx
  obtain ⟨y, _, rfl⟩ := List.mem_map.1 hx
  exact amt_le y


set_option maxRecDepth 100000 in
set_option maxHeartbeats 8000000 in
theorem deriv_walk (v0 v1 v2 : Value) (x : Nat) (xs ys : List Nat) (w : World) (h0 : rU16 w (LT w.heap.size) [v0] x) (hv : rSlice 1 rU16 w (LT w.heap.size) [v1] xs) (hu : rSlice 1 rU16 w (LT w.heap.size) [v2] ys) :
    Calls Tryd.prog 7 #[v0, v1, v2] w fun e w' => e = .returned (.bool true) ∧ Below w.heap.size w w' := by
  obtain ⟨h1, h2⟩ := h0
  simp only [List.cons.injEq, and_true] at h1
  subst h1
  have AW := hid awake18_any
  have A1 := hid (fun w => Amount_any x w h2)
  have A2 := hid (fun (w' : World) (hb : Below w.heap.size w w') => Amounts_q v1 xs 6 w' (by decide) ((stays_rSlice stays_rU16).below hv hb hb.size))
  have A3 := hid (fun (w' : World) (hb : Below w.heap.size w w') => Amounts_q v2 ys 6 w' (by decide) ((stays_rSlice stays_rU16).below hu hb hb.size))
  have hl6 := amts_len xs 6
  have QD := hid (amts_qB xs 6)
  have QS := hid (amts_qB ys 6)
  have SD := hid (amts_sB xs 6)
  have SS := hid (amts_sB ys 6)
  have QA := hid (amt_qB x)
  have LAW := hid (fun i (hi : i < (amts xs 6).length) => law_deriv (h := hS) (amt_nonneg x) (amts_nonneg xs 6) (amts_nonneg ys 6) (amt_grid x) (amts_grid xs 6) (amts_le ys 6) hl6 hS_nn hS_small hi)
  generalize amts xs 6 = ds at *
  generalize amts ys 6 = ss at *
  have R := hid (fun (v : Value) (w : World) (h : RL w v (ds.map enc)) => Refunds_q (qAmt x) v ds 1 w (by decide) (by decide) (sB_enc QA.out) (by omega) SD.out h)
  have RA := hid (fun (v u : Value) (w : World) (h : RL w v (ds.map enc)) (h' : RL w u (ss.map enc)) => Rates_q (qAmt x) v u ds ss 1 w (by decide) (by decide) (sB_enc QA.out) (by omega) SD.out SS.out h h')
  have R2 := hid (fun (v : Value) (w : World) (h : RL w v ((more hS ds ss).map enc)) => Refunds_q (qAmt x) v (more hS ds ss) 6 w (by decide) (by decide) ((sB_enc QA.out).mono (by decide)) (by rw [more_len]; omega) (more_sB6 QD.out QS.out) h)
  have HRO := hid (fun w => Ratio_ok 1 1048576 w (by decide) (by decide) (by decide))
  rw [show mkRat ((1 : Nat) : Int) 1048576 = hS from rfl, show ((1 : Nat) : Int) = 1 from rfl, show ((1048576 : Nat) : Int) = 1048576 from rfl] at HRO
  have QR := hid (gR_qB1 QA.out QD.out (by omega))
  have QQ := hid (gQ_qB1 (W := qAmt x) (ds := ds) QS.out (by omega))
  obtain ⟨n, hn⟩ : ∃ n, n = ds.length := ⟨_, rfl⟩
  have HN := hid hn
  have hl1000 : n ≤ 6 := by omega
  have LAW2 := hid (fun i (hi : i < n) => LAW.out i (by omega))
  obtain ⟨m, hm⟩ : ∃ m, m = ss.length := ⟨_, rfl⟩
  have HM := hid hm
  generalize enc (qAmt x) = q at *
  generalize eh : enc hS = hc at *
  have HH := hid eh
  unfold vRat at A1 R RA R2 HRO
  clear hn hm hv hu h2 hl6 SD SS LAW eh
  have st0 := BK.nil w
  go_enter Tryd.func7, Tryd.ntmps7
  go_wp2_with fail
  refine Calls.mono (A1.out _) ?_
  rintro e w1_ ⟨rfl, hb1_⟩
  have st1_ := BK.next st0 hb1_
  go_wp2_with fail
  refine Calls.mono (A2.out _ st1_.1) ?_
  rintro e w2_ ⟨d, rfl, hd, hb2_⟩
  have st2_ := BK.next st1_ hb2_
  obtain ⟨da, dc, rfl⟩ := RQ.len hd HN.out
  go_wp2_with fail
  refine Calls.mono (A3.out _ st2_.1) ?_
  rintro e w3_ ⟨s, rfl, hs, hb3_⟩
  have st3_ := BK.next st2_ hb3_
  replace hd := RL.below hd hb3_
  obtain ⟨sa, sc, rfl⟩ := RQ.len hs HM.out
  have st4 := BK.push st3_ 25 [.bool q.neg, .string q.num, .string q.den] rfl
  replace hd := RL.below hd ((Below.refl _ _).alloc (Nat.le_refl _) (.cells #[.bool q.neg, .string q.num, .string q.den] 25))
  replace hs := RL.below hs ((Below.refl _ _).alloc (Nat.le_refl _) (.cells #[.bool q.neg, .string q.num, .string q.den] 25))
  clear A1 A2 A3 st1_ hb1_ st2_ hb2_ st3_ hb3_
  obtain ⟨W4, hW4⟩ : ∃ W4, W4 = w3_.alloc (.cells #[.bool q.neg, .string q.num, .string q.den] 25) := ⟨_, rfl⟩
  have HW4 := hid hW4
  rw [← hW4] at st4 hd hs
  clear hW4
  obtain ⟨xc, xf, xl, xg⟩ := BK.cell st4 0 rfl
  have x0 := xc 0 _ rfl
  have x1 := xc 1 _ rfl
  have x2 := xc 2 _ rfl
  clear xc
  go_upto_region 2 with fail
  rw [← HW4.out]
  clear HW4
  have ST4 := hid st4
  clear st4
  refine wp_region_tree (by kernel_rfl) (.cons 0 true (.cons 1 true (.cons 3 true (.cons 4 true (.cons 5 true (.cons 2 false (.cons 6 false (.cons 7 true (.cons 8 true .nil))))))))) (fun _ => true) (by kernel_rfl) (fun _ _ d _ _ h => by cases d <;> exact h) ?_
  refine wpT_take (o := ?o_2_3_1) (v := ?v_2_3_1) (a' := ?aa_2_3_1) ?hi_2_3_1 (Or.inl ⟨?hw_2_3_1, ?hy_2_3_1⟩) ?ha_2_3_1 ?rest_2_3_1
  case hi_2_3_1 => (simp [go_sem]; rfl)
  case hw_2_3_1 => rfl
  case hy_2_3_1 => (intro w0 hF0; have hR0 := fun p h => FL.cell (p := p) hF0 h; first | (go_simp; done) | (go_simp; with_reducible rfl))
  case ha_2_3_1 => (go_simp; rfl)
  refine wpT_take (o := ?o_2_3_2) (v := ?v_2_3_2) (a' := ?aa_2_3_2) ?hi_2_3_2 (Or.inl ⟨?hw_2_3_2, ?hy_2_3_2⟩) ?ha_2_3_2 ?rest_2_3_2
  case hi_2_3_2 => (simp [go_sem]; rfl)
  case hw_2_3_2 => rfl
  case hy_2_3_2 => (intro w0 hF0; clear hF0; first | (go_simp; done) | (go_simp; with_reducible rfl))
  case ha_2_3_2 => (go_simp; rfl)
  refine wpT_take (o := ?o_2_3_3) (v := ?v_2_3_3) (a' := ?aa_2_3_3) ?hi_2_3_3 (Or.inl ⟨?hw_2_3_3, ?hy_2_3_3⟩) ?ha_2_3_3 ?rest_2_3_3
  case hi_2_3_3 => (simp [go_sem]; rfl)
  case hw_2_3_3 => rfl
  case hy_2_3_3 => (intro w0 hF0; have hR0 := fun p h => FL.cell (p := p) hF0 h; first | (go_simp; done) | (go_simp; with_reducible rfl))
  case ha_2_3_3 => (go_simp; rfl)
  refine wpT_take (o := ?o_2_3_4) (v := ?v_2_3_4) (a' := ?aa_2_3_4) ?hi_2_3_4 (Or.inl ⟨?hw_2_3_4, ?hy_2_3_4⟩) ?ha_2_3_4 ?rest_2_3_4
  case hi_2_3_4 => (simp [go_sem]; rfl)
  case hw_2_3_4 => rfl
  case hy_2_3_4 => (intro w0 hF0; clear hF0; first | (go_simp; done) | (go_simp; with_reducible rfl))
  case ha_2_3_4 => (go_simp; rfl)
  refine wpT_take (o := ?o_2_3_5) (v := ?v_2_3_5) (a' := ?aa_2_3_5) ?hi_2_3_5 (Or.inl ⟨?hw_2_3_5, ?hy_2_3_5⟩) ?ha_2_3_5 ?rest_2_3_5
  case hi_2_3_5 => (simp [go_sem]; rfl)
  case hw_2_3_5 => rfl
  case hy_2_3_5 => (intro w0 hF0; clear hF0; first | (go_simp; done) | (go_simp; with_reducible rfl))
  case ha_2_3_5 => (go_simp; rfl)
  refine wpT_eff (o := ?o_2_3_6) ?hi_2_3_6 ?hw_2_3_6 (by rfl) (fun K hK => ?rest_2_3_6)
  case hi_2_3_6 => (simp [go_sem]; rfl)
  case hw_2_3_6 => rfl
  go_simp
  refine Calls.mono (R.out _ _ (RL.drew hd)) ?_
  rintro e w4_ ⟨r, rfl, hr, hb4_⟩
  have st4_ := BK.next (BK.drew ST4.out) hb4_
  replace hd := RL.below (RL.drew hd) hb4_
  replace hs := RL.below (RL.drew hs) hb4_
  clear x0 x1 x2 xf xl xg
  obtain ⟨xc, xf, xl, xg⟩ := BK.cell st4_ 0 rfl
  have x0 := xc 0 _ rfl
  have x1 := xc 1 _ rfl
  have x2 := xc 2 _ rfl
  clear xc
  obtain ⟨ra, rc, rfl⟩ := RQ.len (n := n) hr (by rw [gR_len]; exact HN.out)
  go_simp
  refine hK _ _ (FL.of_below hb4_) ?_
  clear hK K
  refine wpT_eff (o := ?o_2_3_7) ?hi_2_3_7 ?hw_2_3_7 (by rfl) (fun K hK => ?rest_2_3_7)
  case hi_2_3_7 => (simp [go_sem]; rfl)
  case hw_2_3_7 => rfl
  go_simp
  refine Calls.mono (RA.out _ _ _ hd hs) ?_
  rintro e w5_ ⟨qv, rfl, hq, hb5_⟩
  have st5_ := BK.next st4_ hb5_
  replace hd := RL.below hd hb5_
  replace hs := RL.below hs hb5_
  clear x0 x1 x2 xf xl xg
  replace hr := RL.below hr hb5_
  obtain ⟨qa, qc, rfl⟩ := RQ.len (n := n) hq (by rw [gQ_len]; exact HN.out)
  go_simp
  refine hK _ _ (FL.of_below hb5_) ?_
  clear hK K
  refine wpT_take (o := ?o_2_3_8) (v := ?v_2_3_8) (a' := ?aa_2_3_8) ?hi_2_3_8 (Or.inl ⟨?hw_2_3_8, ?hy_2_3_8⟩) ?ha_2_3_8 ?rest_2_3_8
  case hi_2_3_8 => (simp [go_sem]; rfl)
  case hw_2_3_8 => rfl
  case hy_2_3_8 => (intro w0 hF0; clear hF0; first | (go_simp; done) | (go_simp; with_reducible rfl))
  case ha_2_3_8 => (go_simp; rfl)
  refine wpT_take (o := ?o_2_3_9) (v := ?v_2_3_9) (a' := ?aa_2_3_9) ?hi_2_3_9 (Or.inl ⟨?hw_2_3_9, ?hy_2_3_9⟩) ?ha_2_3_9 ?rest_2_3_9
  case hi_2_3_9 => (simp [go_sem]; rfl)
  case hw_2_3_9 => rfl
  case hy_2_3_9 => (intro w0 hF0; clear hF0; first | (go_simp; done) | (go_simp; with_reducible rfl))
  case ha_2_3_9 => (go_simp; rfl)
  refine wpT_done ?_
  clear st0 R RA ST4
  go_wp2_with fail
  refine Calls.mono (HRO.out _) ?_
  rintro e w6_ ⟨rfl, hb6_⟩
  have st6_ := BK.next st5_ hb6_
  replace hd := RL.below hd hb6_
  replace hs := RL.below hs hb6_
  replace hr := RL.below hr hb6_
  replace hq := RL.below hq hb6_
  clear st4_ st5_ hb4_ hb5_
  obtain ⟨W6, hW6⟩ : ∃ W6, W6 = w6_.alloc (.cells #[.bool hc.neg, .string hc.num, .string hc.den] 25) := ⟨_, rfl⟩
  have HW6 := hid hW6
  have st6 := BK.push st6_ 25 [.bool hc.neg, .string hc.num, .string hc.den] rfl
  have hbx := (Below.refl w6_.heap.size w6_).alloc (Nat.le_refl _) (.cells #[.bool hc.neg, .string hc.num, .string hc.den] 25)
  replace hd := RL.below hd hbx
  replace hs := RL.below hs hbx
  replace hr := RL.below hr hbx
  replace hq := RL.below hq hbx
  rw [← hW6] at st6 hd hs hr hq
  clear hbx hW6
  have HD := hid hd
  have HS := hid hs
  have HR := hid hr
  have HQ := hid hq
  have ST6 := hid st6
  obtain ⟨hW6b, hW6c⟩ := And.intro (BK.cell st6 0 rfl).2.2.1 (BK.cell st6 1 rfl).2.2.1
  clear hd hs hr hq st6 st6_ HRO hb6_
  go_wp2
  rw [← HW6.out]
  go_loopw [13, 14, 15, 46] (fun ev _ _ i wr => ∃ k : Nat, k ≤ n ∧ i = .int .i64 k ∧ Below W6.heap.size W6 wr ∧ rGrow 25 3 rRat W6.heap.size wr ev (((more hS ds ss).take k).map enc)) (fun _ _ _ i _ => n - (intOf i).toNat)
  case atStart => exact ⟨0, Nat.zero_le _, rfl, Below.refl _ _, rGrow.nil _ _ _ _ _⟩
  case round =>
    obtain ⟨k, hk, rfl, hbo, hg⟩ := hrel
    by_cases hlt : k < n
    · have hne : ds ≠ [] := by intro h; have := HN.out; rw [h] at this; simp at this; omega
      obtain ⟨db, doff, rfl, hdb, hdc⟩ := (RQ.cells HD.out).resolve_left hne
      obtain ⟨g0, g1, g2⟩ := C3.below (hdc k (by rw [← HN.out]; exact hlt)) hbo hdb
      have qd := QD.out k
      have qs := QS.out k
      have HT := hid (show ((more hS ds ss).take k).map enc ++ [enc (ds.getD k 0 + hS * ss.getD k 0)] = ((more hS ds ss).take (k + 1)).map enc by rw [← more_take hS ds ss k (by rw [← HN.out]; exact hlt), List.map_append]; rfl)
      have HL := hid (show (((more hS ds ss).take k).map enc).length ≤ 1000 by simp; omega)
      have HSX := hid (sB_max (sB_enc (more_qB6 QD.out QS.out k)) (by decide))
      have MU := hid (fun w => qMultiply_any (enc hS) (enc (ss.getD k 0)) 3 1 w (sB_enc hS_qB) (sB_enc qs) (by decide) (by decide) (by decide) (by decide))
      have AD := hid (fun w => qAdd_any (enc (ds.getD k 0)) (enc (hS * ss.getD k 0)) 1 4 w (sB_enc qd) (sB_enc (hS_qB.mul qs)) (by decide) (by decide) (by decide) (by decide))
      rw [qOf_enc, qOf_enc] at MU AD
      rw [HH.out] at MU
      have HZ := hid (fun (h : ¬ k < m) => show enc (ds.getD k 0) = enc (ds.getD k 0 + hS * ss.getD k 0) by
        have : ss.getD k 0 = 0 := by simp [List.getD, List.getElem?_eq_none (show ss.length ≤ k by rw [← HM.out]; omega)]
        rw [this, Rat.mul_zero, Rat.add_zero])
      have HSK := hid (fun (h : k < m) => show k < ss.length by rw [← HM.out]; exact h)
      generalize e9 : ((more hS ds ss).take (k + 1)).map enc = es' at *
      have E9 := hid e9
      clear e9
      generalize ((more hS ds ss).take k).map enc = es at *
      generalize enc (ds.getD k 0 + hS * ss.getD k 0) = xn at *
      generalize enc (hS * ss.getD k 0) = xm at *
      generalize enc (ds.getD k 0) = xd at *
      unfold vRat at MU AD
      have hb3 : (0 : Int) ≤ (k : Int) := by omega
      have hb4 : (k : Int) < (n : Int) := by omega
      have stw := BK.grown (B := W6.heap.size) ST6.out hbo (by intro e he; simp at he; rcases he with rfl | rfl <;> (dsimp only; assumption)) ST6.out.1.size
      have st1 := BK.push stw 25 [.bool xd.neg, .string xd.num, .string xd.den] rfl
      have hown := hid (hg.beside (Nat.le_refl _))
      have hbx := (Below.refl wr.heap.size wr).alloc (Nat.le_refl _) (.cells #[.bool xd.neg, .string xd.num, .string xd.den] 25)
      have hg1 := hid (hg.kept stays_rRat hbx)
      have hbo1 := hid (hbo.trans (hbx.mono hbo.size))
      have hwr := hbo.size
      have ST1 := hid st1
      clear hdc hne qd qs hbx hg hbo stw st1
      go_upto_if 56 with fail
      obtain ⟨W1, hW1⟩ : ∃ W1, W1 = wr.alloc (.cells #[.bool xd.neg, .string xd.num, .string xd.den] 25) := ⟨_, rfl⟩
      rw [← hW1] at ST1 hg1 hbo1 ⊢
      clear hW1 g0 g1 g2
      go_cut [] (fun wx => BK w wx [(wr.heap.size, 25, [.bool xn.neg, .string xn.num, .string xn.den]), (w6_.heap.size, 25, [.bool hc.neg, .string hc.num, .string hc.den]), (w3_.heap.size, 25, [.bool q.neg, .string q.num, .string q.den])] ∧ Below W6.heap.size W6 wx ∧ rGrow 25 3 rRat W6.heap.size wx u13 es)
      case first =>
        by_cases hkm : k < m
        · have hne : ss ≠ [] := by intro h; have := HM.out; rw [h] at this; simp at this; omega
          obtain ⟨sb, soff, rfl, hsb, hsc⟩ := (RQ.cells HS.out).resolve_left hne
          obtain ⟨g0, g1, g2⟩ := C3.below (hsc k (HSK.out hkm)) hbo1.out hsb
          generalize enc (ss.getD k 0) = sk at *
          have hb5 : (k : Int) < (m : Int) := by omega
          clear hsc hne HZ HSK
          obtain ⟨xc, xf, xl, xg⟩ := BK.cell ST1.out 0 rfl
          have x0 := xc 0 _ rfl
          have x1 := xc 1 _ rfl
          have x2 := xc 2 _ rfl
          clear xc
          obtain ⟨hc, hf, hl, hg⟩ := BK.cell ST1.out 1 rfl
          have h0 := hc 0 _ rfl
          have h1 := hc 1 _ rfl
          have h2 := hc 2 _ rfl
          clear hc
          go_wp2_with fail
          have HG := hg1.out
          have HB := hbo1.out
          refine wp_region_tree (by kernel_rfl) (.cons 0 true (.cons 1 true (.cons 2 true (.cons 3 true (.cons 4 true (.cons 5 true (.cons 6 false (.cons 7 false (.cons 8 false .nil))))))))) (fun i => decide (i < 8)) (by kernel_rfl) (fun _ _ d _ _ h => by cases d <;> exact h) ?_
          refine wpT_take (o := ?o_12_4_10) (v := ?v_12_4_10) (a' := ?aa_12_4_10) ?hi_12_4_10 (Or.inl ⟨?hw_12_4_10, ?hy_12_4_10⟩) ?ha_12_4_10 ?rest_12_4_10
          case hi_12_4_10 => (simp [go_sem]; rfl)
          case hw_12_4_10 => rfl
          case hy_12_4_10 => (intro w0 hF0; have hR0 := fun p h => FL.cell (p := p) hF0 h; first | (go_simp; done) | (go_simp; with_reducible rfl))
          case ha_12_4_10 => (go_simp; rfl)
          refine wpT_take (o := ?o_12_4_11) (v := ?v_12_4_11) (a' := ?aa_12_4_11) ?hi_12_4_11 (Or.inl ⟨?hw_12_4_11, ?hy_12_4_11⟩) ?ha_12_4_11 ?rest_12_4_11
          case hi_12_4_11 => (simp [go_sem]; rfl)
          case hw_12_4_11 => rfl
          case hy_12_4_11 => (intro w0 hF0; have hR0 := fun p h => FL.cell (p := p) hF0 h; first | (go_simp; done) | (go_simp; with_reducible rfl))
          case ha_12_4_11 => (go_simp; rfl)
          refine wpT_take (o := ?o_12_4_12) (v := ?v_12_4_12) (a' := ?aa_12_4_12) ?hi_12_4_12 (Or.inl ⟨?hw_12_4_12, ?hy_12_4_12⟩) ?ha_12_4_12 ?rest_12_4_12
          case hi_12_4_12 => (simp [go_sem]; rfl)
          case hw_12_4_12 => rfl
          case hy_12_4_12 => (intro w0 hF0; clear hF0; first | (go_simp; done) | (go_simp; with_reducible rfl))
          case ha_12_4_12 => (go_simp; rfl)
          refine wpT_take (o := ?o_12_4_13) (v := ?v_12_4_13) (a' := ?aa_12_4_13) ?hi_12_4_13 (Or.inl ⟨?hw_12_4_13, ?hy_12_4_13⟩) ?ha_12_4_13 ?rest_12_4_13
          case hi_12_4_13 => (simp [go_sem]; rfl)
          case hw_12_4_13 => rfl
          case hy_12_4_13 => (intro w0 hF0; clear hF0; first | (go_simp; done) | (go_simp; with_reducible rfl))
          case ha_12_4_13 => (go_simp; rfl)
          refine wpT_take (o := ?o_12_4_14) (v := ?v_12_4_14) (a' := ?aa_12_4_14) ?hi_12_4_14 (Or.inl ⟨?hw_12_4_14, ?hy_12_4_14⟩) ?ha_12_4_14 ?rest_12_4_14
          case hi_12_4_14 => (simp [go_sem]; rfl)
          case hw_12_4_14 => rfl
          case hy_12_4_14 => (intro w0 hF0; clear hF0; first | (go_simp; done) | (go_simp; with_reducible rfl))
          case ha_12_4_14 => (go_simp; rfl)
          refine wpT_take (o := ?o_12_4_15) (v := ?v_12_4_15) (a' := ?aa_12_4_15) ?hi_12_4_15 (Or.inl ⟨?hw_12_4_15, ?hy_12_4_15⟩) ?ha_12_4_15 ?rest_12_4_15
          case hi_12_4_15 => (simp [go_sem]; rfl)
          case hw_12_4_15 => rfl
          case hy_12_4_15 => (intro w0 hF0; have hR0 := fun p h => FL.cell (p := p) hF0 h; first | (go_simp; done) | (go_simp; with_reducible rfl))
          case ha_12_4_15 => (go_simp; rfl)
          refine wpT_eff (o := ?o_12_4_16) ?hi_12_4_16 ?hw_12_4_16 (by rfl) (fun K hK => ?rest_12_4_16)
          case hi_12_4_16 => (simp [go_sem]; rfl)
          case hw_12_4_16 => rfl
          go_simp
          refine Calls.mono (MU.out _) ?_
          rintro e w7_ ⟨rfl, hb7_⟩
          have st7_ := BK.next (BK.drew ST1.out) hb7_
          replace HG := rGrow.kept stays_rRat (rGrow.kept stays_rRat HG (Below.drew (Below.refl _ _))) hb7_
          replace HB := Below.step (Below.drew HB) hb7_
          clear x0 x1 x2 xf xl xg h0 h1 h2 hf hl hg g0 g1 g2
          go_simp
          refine hK _ _ (FL.of_below hb7_) ?_
          clear hK K
          refine wpT_eff (o := ?o_12_4_17) ?hi_12_4_17 ?hw_12_4_17 (by rfl) (fun K hK => ?rest_12_4_17)
          case hi_12_4_17 => (simp [go_sem]; rfl)
          case hw_12_4_17 => rfl
          go_simp
          refine Calls.mono (AD.out _) ?_
          rintro e w8_ ⟨rfl, hb8_⟩
          have st8_ := BK.next st7_ hb8_
          replace HG := rGrow.kept stays_rRat HG hb8_
          replace HB := Below.step HB hb8_
          obtain ⟨xc, xf, xl, xg⟩ := BK.cell st8_ 0 rfl
          have x0 := xc 0 _ rfl
          have x1 := xc 1 _ rfl
          have x2 := xc 2 _ rfl
          clear xc
          go_simp
          refine hK _ _ (FL.of_below hb8_) ?_
          clear hK K
          refine wpT_tail 8 (fun j hj => by simp; omega) ?_
          simp only [List.drop_succ_cons, List.drop_zero]
          have st9_ := BK.put3 st8_ 0 rfl 0 (.bool xn.neg) (.string xn.num) (.string xn.den)
          go_wp2
          go_meet
          exact ⟨st9_, ((HB.setCell hwr _).setCell hwr _).setCell hwr _, HG.putO hown.out xn⟩
        · have e5 := hid (HZ.out hkm)
          have hb5 : decide ((k : Int) < (m : Int)) = false := by simp; omega
          clear HZ HSK MU AD
          go_wp2
          go_meet
          rw [← e5.out]
          exact ⟨ST1.out, hbo1.out, hg1.out⟩
      case rest =>
        clear ST1 hg1 hbo1 HZ HSK MU AD
        obtain ⟨st, HB, HG⟩ := hcut
        have ST := hid st
        obtain ⟨xc, xf, xl, xg⟩ := BK.cell st 0 rfl
        have x0 := xc 0 _ rfl
        have x1 := xc 1 _ rfl
        have x2 := xc 2 _ rfl
        clear xc
        clear st
        have hbx := (Below.refl wc.heap.size wc).alloc (Nat.le_refl _) (.cells #[.bool xn.neg, .string xn.num, .string xn.den] 25)
        have hg2 := HG.kept stays_rRat hbx
        have hb7 := HB.trans (hbx.mono HB.size)
        have hsz := HB.size
        have HXL := hid xl
        clear HG HB hbx
        go_wp2_with (at_builtin; refine wpList_push _ rfl _ _ 27 rfl stays_rRat W6.heap.size 25 3 40 _ Tryd.underlying27 Tryd.infoRat rfl (by omega) _ es rfl hg2 ?hbase ?hbytes ?h63 wc.heap.size 1 [.bool xn.neg, .string xn.num, .string xn.den] rfl rfl ?hb rfl xn (rRat_new _ _ _ HSX.out) ?_)
        case hbase => simp; omega
        case hbytes => have := HL.out; omega
        case h63 => have := HL.out; omega
        case hb => exact ⟨(0, 0), heap_alloc_new _ _⟩
        intro v' w' hg' hgr hbel'
        rw [HT.out, ← E9.out] at hg'
        have hb8 := hid (hb7.trans hbel')
        clear hg2 hbel' hgr hb7 x0 x1 x2 xf xl xg
        go_wp2
        go_roundw
        case rel => exact ⟨k + 1, hlt, by go_num, hb8.out, hg'⟩
        case measure => simp [intOf]; omega
    · have hk' : k = n := by omega
      have hE := hg.slice stays_rRat
      have e : ((more hS ds ss).take k).map enc = (more hS ds ss).map enc := by rw [List.take_of_length_le (by rw [more_len, ← HN.out]; omega)]
      rw [e] at hE
      obtain ⟨ea, ec, rfl⟩ := RQ.len (n := n) hE (by rw [more_len]; exact HN.out)
      have st := BK.grown (B := W6.heap.size) ST6.out hbo (by intro e he; simp at he; rcases he with rfl | rfl <;> (dsimp only; assumption)) ST6.out.1.size
      have HBO := hid hbo
      have HE := hid hE
      have ST := hid st
      clear e hg hk' hbo hE
      obtain ⟨xc, xf, xl, xg⟩ := BK.cell st 1 rfl
      have x0 := xc 0 _ rfl
      have x1 := xc 1 _ rfl
      have x2 := xc 2 _ rfl
      clear xc
      clear st
      clear HW6
      go_wp2_with fail
      refine Calls.mono (R2.out _ _ HE.out) ?_
      rintro e w10_ ⟨t, rfl, ht, hb10_⟩
      have st10_ := BK.next ST.out hb10_
      clear x0 x1 x2 xf xl xg
      obtain ⟨ta, tc, rfl⟩ := RQ.len (n := n) ht (by rw [gR_len, more_len]; exact HN.out)
      have HT := hid ht
      have HBW := hid (HBO.out.trans (hb10_.mono HBO.out.size))
      have ST7 := hid st10_
      clear ht hb10_ st10_ ST HE HBO
      go_wp2
      go_loopw [17, 80] (fun _ i ws => ∃ j : Nat, j ≤ n ∧ i = .int .i64 j ∧ Below w10_.heap.size w10_ ws) (fun _ i _ => n - (intOf i).toNat)
      case atStart => exact ⟨0, Nat.zero_le _, rfl, Below.refl _ _⟩
      case round =>
        obtain ⟨j, hj, rfl, hbo⟩ := hrel
        by_cases hlt : j < n
        · have hne : ds ≠ [] := by intro h; have := HN.out; rw [h] at this; simp at this; omega
          have hne1 : gR (qAmt x) ds ≠ [] := by intro h; have := gR_len (qAmt x) ds; rw [h] at this; have h2 := HN.out; simp at this; omega
          have hne2 : gQ (qAmt x) ds ss ≠ [] := by intro h; have := gQ_len (qAmt x) ds ss; rw [h] at this; have h2 := HN.out; simp at this; omega
          have hne3 : gR (qAmt x) (more hS ds ss) ≠ [] := by intro h; have := gR_len (qAmt x) (more hS ds ss); rw [h, more_len] at this; have h2 := HN.out; simp at this; omega
          obtain ⟨rb, roff, rfl, hrb, hrc⟩ := (RQ.cells HR.out).resolve_left hne1
          obtain ⟨qb, qoff, rfl, hqb, hqc⟩ := (RQ.cells HQ.out).resolve_left hne2
          obtain ⟨tb, toff, rfl, htb, htc⟩ := (RQ.cells HT.out).resolve_left hne3
          have hbo6 := HBW.out.trans (hbo.mono (Nat.le_trans HBW.out.size (Nat.le_refl _)))
          obtain ⟨r0, r1, r2⟩ := C3.below (hrc j (by rw [gR_len, ← HN.out]; exact hlt)) hbo6 hrb
          obtain ⟨q0, q1, q2⟩ := C3.below (hqc j (by rw [gQ_len, ← HN.out]; exact hlt)) hbo6 hqb
          obtain ⟨t0, t1, t2⟩ := C3.below (htc j (by rw [gR_len, more_len, ← HN.out]; exact hlt)) hbo htb
          have MU := hid (fun w => qMultiply_any (enc hS) (enc ((gQ (qAmt x) ds ss).getD j 0)) 3 1000 w (sB_enc hS_qB) (sB_enc (QQ.out j)) (by decide) (by decide) (by decide) (by decide))
          have AD := hid (fun w => qAdd_any (enc ((gR (qAmt x) ds).getD j 0)) (enc (hS * (gQ (qAmt x) ds ss).getD j 0)) 1000 1003 w (sB_enc (QR.out j)) (sB_enc (hS_qB.mul (QQ.out j))) (by decide) (by decide) (by decide) (by decide))
          rw [qOf_enc, qOf_enc] at MU AD
          rw [HH.out] at MU
          rw [LAW2.out j hlt] at AD
          generalize enc ((gR (qAmt x) (more hS ds ss)).getD j 0) = tv at *
          generalize enc (hS * (gQ (qAmt x) ds ss).getD j 0) = mv at *
          generalize enc ((gQ (qAmt x) ds ss).getD j 0) = qw at *
          generalize enc ((gR (qAmt x) ds).getD j 0) = rw_ at *
          unfold vRat at MU AD
          have hb3 : (0 : Int) ≤ (j : Int) := by omega
          have hb4 : (j : Int) < (n : Int) := by omega
          have HB := hid hbo
          have st := BK.next ST7.out hbo
          have HST := hid st
          clear hrc hqc htc hne hne1 hne2 hne3 hbo6 hbo
          obtain ⟨hc, hf, hl, hg⟩ := BK.cell st 0 rfl
          have h0 := hc 0 _ rfl
          have h1 := hc 1 _ rfl
          have h2 := hc 2 _ rfl
          clear hc
          clear st
          go_wp2_with fail
          have HB2 := HB.out
          refine wp_region_tree (by kernel_rfl) (.cons 0 true (.cons 1 true (.cons 2 true (.cons 3 true (.cons 4 true (.cons 5 true (.cons 6 true (.cons 7 true (.cons 8 true (.cons 11 true (.cons 12 true (.cons 13 true (.cons 14 true (.cons 9 false (.cons 10 false (.cons 15 true .nil)))))))))))))))) (fun _ => true) (by kernel_rfl) (fun _ _ d _ _ h => by cases d <;> exact h) ?_
          refine wpT_take (o := ?o_21_5_19) (v := ?v_21_5_19) (a' := ?aa_21_5_19) ?hi_21_5_19 (Or.inl ⟨?hw_21_5_19, ?hy_21_5_19⟩) ?ha_21_5_19 ?rest_21_5_19
          case hi_21_5_19 => (simp [go_sem]; rfl)
          case hw_21_5_19 => rfl
          case hy_21_5_19 => (intro w0 hF0; clear hF0; first | (go_simp; done) | (go_simp; with_reducible rfl))
          case ha_21_5_19 => (go_simp; rfl)
          refine wpT_take (o := ?o_21_5_20) (v := ?v_21_5_20) (a' := ?aa_21_5_20) ?hi_21_5_20 (Or.inl ⟨?hw_21_5_20, ?hy_21_5_20⟩) ?ha_21_5_20 ?rest_21_5_20
          case hi_21_5_20 => (simp [go_sem]; rfl)
          case hw_21_5_20 => rfl
          case hy_21_5_20 => (intro w0 hF0; clear hF0; first | (go_simp; done) | (go_simp; with_reducible rfl))
          case ha_21_5_20 => (go_simp; rfl)
          refine wpT_take (o := ?o_21_5_21) (v := ?v_21_5_21) (a' := ?aa_21_5_21) ?hi_21_5_21 (Or.inl ⟨?hw_21_5_21, ?hy_21_5_21⟩) ?ha_21_5_21 ?rest_21_5_21
          case hi_21_5_21 => (simp [go_sem]; rfl)
          case hw_21_5_21 => rfl
          case hy_21_5_21 => (intro w0 hF0; clear hF0; first | (go_simp; done) | (go_simp; with_reducible rfl))
          case ha_21_5_21 => (go_simp; rfl)
          refine wpT_take (o := ?o_21_5_22) (v := ?v_21_5_22) (a' := ?aa_21_5_22) ?hi_21_5_22 (Or.inl ⟨?hw_21_5_22, ?hy_21_5_22⟩) ?ha_21_5_22 ?rest_21_5_22
          case hi_21_5_22 => (simp [go_sem]; rfl)
          case hw_21_5_22 => rfl
          case hy_21_5_22 => (intro w0 hF0; have hR0 := fun p h => FL.cell (p := p) hF0 h; first | (go_simp; done) | (go_simp; with_reducible rfl))
          case ha_21_5_22 => (go_simp; rfl)
          refine wpT_take (o := ?o_21_5_23) (v := ?v_21_5_23) (a' := ?aa_21_5_23) ?hi_21_5_23 (Or.inl ⟨?hw_21_5_23, ?hy_21_5_23⟩) ?ha_21_5_23 ?rest_21_5_23
          case hi_21_5_23 => (simp [go_sem]; rfl)
          case hw_21_5_23 => rfl
          case hy_21_5_23 => (intro w0 hF0; have hR0 := fun p h => FL.cell (p := p) hF0 h; first | (go_simp; done) | (go_simp; with_reducible rfl))
          case ha_21_5_23 => (go_simp; rfl)
          refine wpT_take (o := ?o_21_5_24) (v := ?v_21_5_24) (a' := ?aa_21_5_24) ?hi_21_5_24 (Or.inl ⟨?hw_21_5_24, ?hy_21_5_24⟩) ?ha_21_5_24 ?rest_21_5_24
          case hi_21_5_24 => (simp [go_sem]; rfl)
          case hw_21_5_24 => rfl
          case hy_21_5_24 => (intro w0 hF0; clear hF0; first | (go_simp; done) | (go_simp; with_reducible rfl))
          case ha_21_5_24 => (go_simp; rfl)
          refine wpT_take (o := ?o_21_5_25) (v := ?v_21_5_25) (a' := ?aa_21_5_25) ?hi_21_5_25 (Or.inl ⟨?hw_21_5_25, ?hy_21_5_25⟩) ?ha_21_5_25 ?rest_21_5_25
          case hi_21_5_25 => (simp [go_sem]; rfl)
          case hw_21_5_25 => rfl
          case hy_21_5_25 => (intro w0 hF0; clear hF0; first | (go_simp; done) | (go_simp; with_reducible rfl))
          case ha_21_5_25 => (go_simp; rfl)
          refine wpT_take (o := ?o_21_5_26) (v := ?v_21_5_26) (a' := ?aa_21_5_26) ?hi_21_5_26 (Or.inl ⟨?hw_21_5_26, ?hy_21_5_26⟩) ?ha_21_5_26 ?rest_21_5_26
          case hi_21_5_26 => (simp [go_sem]; rfl)
          case hw_21_5_26 => rfl
          case hy_21_5_26 => (intro w0 hF0; clear hF0; first | (go_simp; done) | (go_simp; with_reducible rfl))
          case ha_21_5_26 => (go_simp; rfl)
          refine wpT_take (o := ?o_21_5_27) (v := ?v_21_5_27) (a' := ?aa_21_5_27) ?hi_21_5_27 (Or.inl ⟨?hw_21_5_27, ?hy_21_5_27⟩) ?ha_21_5_27 ?rest_21_5_27
          case hi_21_5_27 => (simp [go_sem]; rfl)
          case hw_21_5_27 => rfl
          case hy_21_5_27 => (intro w0 hF0; have hR0 := fun p h => FL.cell (p := p) hF0 h; first | (go_simp; done) | (go_simp; with_reducible rfl))
          case ha_21_5_27 => (go_simp; rfl)
          refine wpT_take (o := ?o_21_5_28) (v := ?v_21_5_28) (a' := ?aa_21_5_28) ?hi_21_5_28 (Or.inl ⟨?hw_21_5_28, ?hy_21_5_28⟩) ?ha_21_5_28 ?rest_21_5_28
          case hi_21_5_28 => (simp [go_sem]; rfl)
          case hw_21_5_28 => rfl
          case hy_21_5_28 => (intro w0 hF0; clear hF0; first | (go_simp; done) | (go_simp; with_reducible rfl))
          case ha_21_5_28 => (go_simp; rfl)
          refine wpT_take (o := ?o_21_5_29) (v := ?v_21_5_29) (a' := ?aa_21_5_29) ?hi_21_5_29 (Or.inl ⟨?hw_21_5_29, ?hy_21_5_29⟩) ?ha_21_5_29 ?rest_21_5_29
          case hi_21_5_29 => (simp [go_sem]; rfl)
          case hw_21_5_29 => rfl
          case hy_21_5_29 => (intro w0 hF0; clear hF0; first | (go_simp; done) | (go_simp; with_reducible rfl))
          case ha_21_5_29 => (go_simp; rfl)
          refine wpT_take (o := ?o_21_5_30) (v := ?v_21_5_30) (a' := ?aa_21_5_30) ?hi_21_5_30 (Or.inl ⟨?hw_21_5_30, ?hy_21_5_30⟩) ?ha_21_5_30 ?rest_21_5_30
          case hi_21_5_30 => (simp [go_sem]; rfl)
          case hw_21_5_30 => rfl
          case hy_21_5_30 => (intro w0 hF0; clear hF0; first | (go_simp; done) | (go_simp; with_reducible rfl))
          case ha_21_5_30 => (go_simp; rfl)
          refine wpT_take (o := ?o_21_5_31) (v := ?v_21_5_31) (a' := ?aa_21_5_31) ?hi_21_5_31 (Or.inl ⟨?hw_21_5_31, ?hy_21_5_31⟩) ?ha_21_5_31 ?rest_21_5_31
          case hi_21_5_31 => (simp [go_sem]; rfl)
          case hw_21_5_31 => rfl
          case hy_21_5_31 => (intro w0 hF0; have hR0 := fun p h => FL.cell (p := p) hF0 h; first | (go_simp; done) | (go_simp; with_reducible rfl))
          case ha_21_5_31 => (go_simp; rfl)
          refine wpT_eff (o := ?o_21_5_32) ?hi_21_5_32 ?hw_21_5_32 (by rfl) (fun K hK => ?rest_21_5_32)
          case hi_21_5_32 => (simp [go_sem]; rfl)
          case hw_21_5_32 => rfl
          go_simp
          refine Calls.mono (MU.out _) ?_
          rintro e w11_ ⟨rfl, hb11_⟩
          have st11_ := BK.next (BK.drew HST.out) hb11_
          replace HB2 := Below.step (Below.drew HB2) hb11_
          clear h0 h1 h2 hf hl hg r0 r1 r2 q0 q1 q2 t0 t1 t2
          go_simp
          refine hK _ _ (FL.of_below hb11_) ?_
          clear hK K
          refine wpT_eff (o := ?o_21_5_33) ?hi_21_5_33 ?hw_21_5_33 (by rfl) (fun K hK => ?rest_21_5_33)
          case hi_21_5_33 => (simp [go_sem]; rfl)
          case hw_21_5_33 => rfl
          go_simp
          refine Calls.mono (AD.out _) ?_
          rintro e w12_ ⟨rfl, hb12_⟩
          have st12_ := BK.next st11_ hb12_
          replace HB2 := Below.step HB2 hb12_
          go_simp
          refine hK _ _ (FL.of_below hb12_) ?_
          clear hK K
          refine wpT_take (o := ?o_21_5_34) (v := ?v_21_5_34) (a' := ?aa_21_5_34) ?hi_21_5_34 (Or.inl ⟨?hw_21_5_34, ?hy_21_5_34⟩) ?ha_21_5_34 ?rest_21_5_34
          case hi_21_5_34 => (simp [go_sem]; rfl)
          case hw_21_5_34 => rfl
          case hy_21_5_34 => (intro w0 hF0; clear hF0; first | (go_simp; done) | (go_simp; with_reducible rfl))
          case ha_21_5_34 => (go_simp; rfl)
          refine wpT_done ?_
          have HB3 := hid HB2
          clear HB2 st12_
          go_wp2
          go_roundw
          case rel => exact ⟨j + 1, hlt, by go_num, HB3.out⟩
          case measure => simp [intOf]; omega
        · skip
          go_wp2_with fail
          refine Calls.mono (AW.out _) ?_
          rintro e w13_ ⟨rfl, hb13_⟩
          have st13_ := BK.next (BK.next ST7.out hbo) hb13_
          go_wp2
          go_ret
          exact ⟨rfl, st13_.1⟩

end Go.Proofs.YtgmedcncbpdimaaDoor
