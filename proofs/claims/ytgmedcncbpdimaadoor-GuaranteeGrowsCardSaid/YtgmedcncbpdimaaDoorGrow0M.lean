/- GuaranteeGrows: walked. -/
import Derived.Test.YtgmedcncbpdimaaDoorBal0M
import Derived.Test.YtgmedcncbpdimaaDoorGu7M
import Derived.Test.YtgmedcncbpdimaaDoorGu8M
import Derived.Deep.DeepCutAuto
set_option linter.unusedVariables false
set_option linter.unusedSimpArgs false
set_option linter.unusedSectionVars false
/- GuaranteeGrows: walked. -/
namespace Go.Proofs.YtgmedcncbpdimaaDoor
open Go.RowKit
attribute [local go_sem ↓] Go.wp_at_zero Go.wp_at_succ

theorem Amounts_o (v : Value) (xs : List Nat) (n : Nat) (w : World) (hn : n ≤ 1000) (hv : rSlice 1 rU16 w (LT w.heap.size) [v] xs) :
    Calls Tryd.prog 11 #[v, .int .i64 n] w fun e w' => ∃ u, e = .returned u ∧ rGrow 25 3 rRat w.heap.size w' u ((amts xs n).map enc) ∧ Below w.heap.size w w' := by
  have := Amounts_own v xs n w hn hv
  rw [show (xs.take n).map (fun x => enc (qAmt x)) = (amts xs n).map enc by unfold amts; rw [List.map_map]; rfl] at this
  exact this
theorem Refunds_o (W : Rat) (v : Value) (ds : List Rat) (m : Nat) (w : World) (hm : m ≤ 1000) (hm0 : 0 < m) (hW : sB m (enc W)) (hl : ds.length ≤ 1000) (hs : ∀ r ∈ ds.map enc, sB m r) (hv : RL w v (ds.map enc)) :
    Calls Tryd.prog 12 #[vRat (enc W), v] w fun e w' => ∃ u, e = .returned u ∧ RL w' u ((gR W ds).map enc) ∧ Below w.heap.size w w' ∧ (∃ b, u = .slice (some ⟨b, 0, none⟩) ds.length ds.length ∧ w.heap.size ≤ b) := by
  have := Refunds_own (enc W) v (ds.map enc) m w hm hm0 hW (by simpa using hl) hs hv
  rw [qOf_enc, qL_enc, List.length_map] at this
  exact this
theorem C3.block {w w' : World} {b o : Nat} {r : GRat} (h : C3 w b o r) (hb : w'.heap[b]? = w.heap[b]?) : C3 w' b o r := by
  unfold C3 World.cell? at *
  rw [hb]; exact h
/-- The row at b reads as rs. -/
def CR (w : World) (b : Nat) (qs : List Rat) : Prop := b < w.heap.size ∧ ∀ j, j < qs.length → C3 w b (j * 3) (enc (qs.getD j 0))
theorem CR.below {w w' : World} {b : Nat} {qs : List Rat} (h : CR w b qs) (hb : Below w.heap.size w w') : CR w' b qs := ⟨Nat.lt_of_lt_of_le h.1 hb.size, fun j hj => C3.below (h.2 j hj) hb h.1⟩
theorem CR.other {w : World} {b g p q s : Nat} {x y z : Value} {qs : List Rat} (h : CR w b qs) (hne : g ≠ b) : CR (((w.setCell ⟨g, p, none⟩ x).setCell ⟨g, q, none⟩ y).setCell ⟨g, s, none⟩ z) b qs :=
  ⟨by simpa using h.1, fun j hj => C3.block (h.2 j hj) (by rw [Below.heap_setCell _ _ _ _ (fun e => hne e.symm), Below.heap_setCell _ _ _ _ (fun e => hne e.symm), Below.heap_setCell _ _ _ _ (fun e => hne e.symm)])⟩
theorem CR.of {w : World} {b : Nat} {n c : Nat} {qs : List Rat} (h : RL w (.slice (some ⟨b, 0, none⟩) n c) (qs.map enc)) (hne : 0 < qs.length) : CR w b qs := by
  obtain ⟨a, cap, e, _, h2⟩ := RQ.open h
  simp only [Value.slice.injEq] at e
  rcases h2 with h2 | ⟨b', off, h3, h4, h5⟩
  · rw [h2] at hne; simp at hne
  · rw [h3] at e
    simp only [Option.some.injEq, Addr.mk.injEq, and_true] at e
    obtain ⟨⟨rfl, rfl⟩, _⟩ := e
    exact ⟨h4, fun j hj => by have := h5 j hj; simpa [C3] using this⟩

/-- The state of the law's walk: two boxes, the first refunds, the delivered. -/
def GSt (w wx : World) (b9 b12 rb g cap : Nat) (q kk : GRat) (rs : List Rat) (es : List GRat) : Prop := Below w.heap.size w wx ∧ Bx wx b9 q ∧ Bx wx b12 kk ∧ CR wx rb rs ∧ OwnC wx g cap es
section
variable {w wx : World} {b9 b12 rb g cap : Nat} {q kk : GRat} {rs : List Rat} {es : List GRat}
theorem GSt.next {w' : World} (h : GSt w wx b9 b12 rb g cap q kk rs es) (hb : Below wx.heap.size wx w') : GSt w w' b9 b12 rb g cap q kk rs es := ⟨h.1.step hb, h.2.1.below hb, h.2.2.1.below hb, h.2.2.2.1.below hb, h.2.2.2.2.below hb⟩
theorem GSt.drew (h : GSt w wx b9 b12 rb g cap q kk rs es) : GSt w wx.drew b9 b12 rb g cap q kk rs es := ⟨Below.drew h.1, h.2.1.drew, h.2.2.1.drew, h.2.2.2.1, h.2.2.2.2⟩
theorem GSt.put (h : GSt w wx b9 b12 rb g cap q kk rs es) (h1 : g ≠ b9) (h2 : g ≠ b12) (h3 : g ≠ rb) (h4 : w.heap.size ≤ g) {k : Nat} (hk : k < es.length) (r : GRat) :
    GSt w (((wx.setCell ⟨g, k * 3, none⟩ (.bool r.neg)).setCell ⟨g, k * 3 + 1, none⟩ (.string r.num)).setCell ⟨g, k * 3 + 2, none⟩ (.string r.den)) b9 b12 rb g cap q kk rs (es.set k r) :=
  ⟨((h.1.setCell (by simpa using h4) _).setCell (by simpa using h4) _).setCell (by simpa using h4) _, h.2.1.other' h1, h.2.2.1.other' h2, h.2.2.2.1.other h3, h.2.2.2.2.put hk r⟩
end
theorem gK_qB3 {W : Rat} {ds : List Rat} (hW : qB 1 W) (hd : ∀ k, qB 3 (ds.getD k 0)) (hl : ds.length ≤ 10) : qB 1000 (gK W ds) := by
  unfold gK qmin
  split
  · exact (gS_qB hd (by decide) _).mono (by omega)
  · exact (qpos_qB hW).mono (by decide)
theorem gR_qB3 {W : Rat} {ds : List Rat} (hW : qB 1 W) (hd : ∀ k, qB 3 (ds.getD k 0)) (hl : ds.length ≤ 10) (k : Nat) : qB 1000 ((gR W ds).getD k 0) := by
  rcases Nat.lt_or_ge k ds.length with h | h
  · rw [gR_get _ _ _ h]
    exact ((gO_qB hW hd (by decide) (k + 1)).sub (gO_qB hW hd (by decide) k)).mono (by omega)
  · have e : (gR W ds).getD k 0 = 0 := by simp only [List.getD, List.getElem?_eq_none (show (gR W ds).length ≤ k by rw [gR_len]; exact h), Option.getD_none]
    rw [e]; exact qB_zero.mono (by decide)
theorem more_qB {ds : List Rat} {i y : Nat} (hd : ∀ k, qB 1 (ds.getD k 0)) : ∀ k, qB 3 ((ds.set i (ds.getD i 0 + qAmt y)).getD k 0) := by
  intro k
  by_cases h : i = k
  · subst h
    by_cases hl : i < ds.length
    · simp only [List.getD, List.getElem?_set_self hl, Option.getD_some]
      exact ((hd i).add (amt_qB y)).mono (by decide)
    · have e : (ds.set i (ds.getD i 0 + qAmt y)).getD i 0 = 0 := by simp [List.getD, show ds.length ≤ i by omega]
      rw [e]; exact qB_zero.mono (by decide)
  · simp only [List.getD, List.getElem?_set_ne h]
    exact (hd k).mono (by decide)
theorem more_sB {ds : List Rat} {i y : Nat} (hd : ∀ k, qB 1 (ds.getD k 0)) : ∀ r ∈ (ds.set i (ds.getD i 0 + qAmt y)).map enc, sB 3 r := by
  intro r hr
  obtain ⟨q, hq, rfl⟩ := List.mem_map.1 hr
  rcases List.mem_or_eq_of_mem_set hq with h | rfl
  · obtain ⟨j, hj, rfl⟩ := List.getElem_of_mem h
    have := hd j
    simp only [List.getD, List.getElem?_eq_getElem hj, Option.getD_some] at this
    exact (sB_enc this).mono (by decide)
  · exact sB_enc (((hd i).add (amt_qB y)).mono (by decide))


set_option maxRecDepth 100000 in
set_option maxHeartbeats 4000000 in
theorem grows_walk (v0 v1 v2 v3 : Value) (x : Nat) (xs : List Nat) (at_ y : Nat) (w : World) (h0 : rU16 w (LT w.heap.size) [v0] x) (hv : rSlice 1 rU16 w (LT w.heap.size) [v1] xs) (h2' : rU8 w (LT w.heap.size) [v2] at_) (h3' : rU16 w (LT w.heap.size) [v3] y) :
    Calls Tryd.prog 5 #[v0, v1, v2, v3] w fun e w' => e = .returned (.bool true) ∧ Below w.heap.size w w' := by
  obtain ⟨h1, h2⟩ := h0
  obtain ⟨g1, g2⟩ := h2'
  obtain ⟨k1, k2⟩ := h3'
  simp only [List.cons.injEq, and_true] at h1 g1 k1
  subst h1 g1 k1
  have A1 := hid (fun w => Amount_any x w h2)
  have AY := hid (fun w => Amount_any y w k2)
  have A2 := hid (fun (w' : World) (hb : Below w.heap.size w w') => Amounts_o v1 xs 8 w' (by decide) ((stays_rSlice stays_rU16).below hv hb hb.size))
  have AW := hid awake18_any
  have hl10 : (amts xs 8).length ≤ 10 := Nat.le_trans (amts_len xs 8) (by decide)
  have hdl := amts_len xs 8
  have NN := amts_nonneg xs 8
  have QD := amts_qB xs 8
  have SB := amts_sB xs 8
  generalize amts xs 8 = ds at *
  have QA := amt_qB x
  have R := hid (fun (v : Value) (w : World) (h : RL w v (ds.map enc)) => Refunds_o (qAmt x) v ds 1 w (by decide) (by decide) (sB_enc QA) (Nat.le_trans hl10 (by decide)) SB h)
  have K := hid (fun (v : Value) (w : World) (h : RL w v (ds.map enc)) => Kept_q (qAmt x) v ds 1 w (by decide) (by decide) (sB_enc QA) (Nat.le_trans hl10 (by decide)) SB h)
  have LG := hid (fun i (hi : i < ds.length) => law_grows (w := qAmt x) NN hi (amt_nonneg y))
  have es := hid (fun i => more_sB (i := i) (y := y) QD)
  have hSB1 : ∀ r ∈ ds.map enc, sB maxLen r := fun r hr => (SB r hr).mono (by unfold maxLen; omega)
  have QDH := hid QD
  obtain ⟨n, hn⟩ : ∃ n, n = ds.length := ⟨_, rfl⟩
  have HDL := hid hn
  rw [← hn] at hdl hl10
  have QAH := hid QA
  have HSB1 := hid hSB1
  clear hn hv h2 k2 QA NN QD SB hSB1
  have R2 := hid (fun (i : Nat) (v : Value) (w : World) (h : RL w v ((ds.set i (ds.getD i 0 + qAmt y)).map enc)) => Refunds_o (qAmt x) v (ds.set i (ds.getD i 0 + qAmt y)) 3 w (by decide) (by decide) ((sB_enc QAH.out).mono (by decide)) (by rw [List.length_set, ← HDL.out]; omega) (es.out i) h)
  have K2 := hid (fun (i : Nat) (v : Value) (w : World) (h : RL w v ((ds.set i (ds.getD i 0 + qAmt y)).map enc)) => Kept_q (qAmt x) v (ds.set i (ds.getD i 0 + qAmt y)) 3 w (by decide) (by decide) ((sB_enc QAH.out).mono (by decide)) (by rw [List.length_set, ← HDL.out]; omega) (es.out i) h)
  have QK2 := fun i => gK_qB3 (W := qAmt x) QAH.out (more_qB (i := i) (y := y) QDH.out) (by rw [List.length_set, ← HDL.out]; exact hl10)
  have QR2 := hid (fun i => gR_qB3 (W := qAmt x) QAH.out (more_qB (i := i) (y := y) QDH.out) (by rw [List.length_set, ← HDL.out]; exact hl10))
  have CKK := hid (fun (i : Nat) (w : World) => show Calls Tryd.prog 22 #[vRat (enc (gK (qAmt x) ds)), vRat (enc (gK (qAmt x) (ds.set i (ds.getD i 0 + qAmt y))))] w fun e w' => e = .returned (.int .i64 (qCmp (gK (qAmt x) ds) (gK (qAmt x) (ds.set i (ds.getD i 0 + qAmt y))))) ∧ Below w.heap.size w w' by
    have := qCompare_any (enc (gK (qAmt x) ds)) (enc (gK (qAmt x) (ds.set i (ds.getD i 0 + qAmt y)))) 200 1000 w (sB_enc (gK_qB QAH.out QDH.out (by rw [← HDL.out]; exact hl10))) (sB_enc (QK2 i)) (by decide) (by decide) (by decide) (by decide)
    rwa [qOf_enc, qOf_enc] at this)
  clear QK2
  unfold vRat at R2 K2 CKK
  have QGR : ∀ k, qB 200 ((gR (qAmt x) ds).getD k 0) := gR_qB QAH.out QDH.out (by rw [← HDL.out]; exact hl10)
  have QGK : qB 200 (gK (qAmt x) ds) := gK_qB QAH.out QDH.out (by rw [← HDL.out]; exact hl10)
  generalize enc (qAmt x) = q at *
  generalize enc (gK (qAmt x) ds) = kk at *
  unfold vRat at A1 R K AY
  go_enter Tryd.func5, Tryd.ntmps5
  go_wp2_with fail
  refine Calls.mono (A1.out _) ?_
  rintro e w1 ⟨rfl, hb1⟩
  go_wp2_with fail
  refine Calls.mono (A2.out _ hb1) ?_
  rintro e w2 ⟨v, rfl, hg, hb2⟩
  by_cases hne : ds = []
  · obtain ⟨a, cap, rfl, _⟩ := RQ.open (hg.slice stays_rRat)
    have hl0 : ds.length = 0 := by rw [hne]; rfl
    rw [hl0]
    have HX := hid ((hb1.step hb2).alloc (Below.size (hb1.step hb2)) (.cells #[.bool q.neg, .string q.num, .string q.den] 25))
    clear hg hb1 hb2 hl0 hne
    go_wp2_with fail
    refine Calls.mono (AW.out _) ?_
    rintro e w3 ⟨rfl, hb3⟩
    go_wp2
    go_ret
    exact ⟨rfl, Below.step HX.out hb3⟩
  · obtain ⟨g, cap, rfl, hbg, hC⟩ := OwnC.of_grow hg (by simpa using hne)
    rw [List.length_map, ← HDL.out]
    have hn0 : 0 < n := by have := List.length_pos_iff.2 hne; rw [← HDL.out] at this; exact this
    have hwg : w.heap.size ≤ g := Nat.le_trans hb1.size hbg
    have hb := hid (hb1.step hb2)
    have rd0 := hC.reads HSB1.out
    rw [List.length_map, ← HDL.out] at rd0
    have hbox := (Below.refl w2.heap.size w2).alloc (Nat.le_refl _) (.cells #[.bool q.neg, .string q.num, .string q.den] 25)
    have bq := Bx.new w2 q
    have rd1 := rd0.below hbox
    have hC1 := hC.below hbox
    have hbg1 := hC.facts (k := 0) (by rw [List.length_map, ← HDL.out]; exact hn0)
    have hgl : g < w2.heap.size := hbg1.2.2.2.2
    have RD1 := hid rd1
    have HC1 := hid hC1
    have HBQ := hid bq
    have HBX := hid (hb.out.step hbox)
    clear rd0 rd1 hC hC1 bq hbg1 hbox hb1 hb2 hg
    go_wp2_with fail
    refine Calls.mono (R.out _ _ RD1.out) ?_
    rintro e w3 ⟨u, rfl, hr, hb3, rb, rfl, hrb⟩
    rw [← HDL.out] at hr ⊢
    have HR := hid (CR.of hr (by rw [gR_len, ← HDL.out]; exact hn0))
    have HX := hid (HBX.out.step hb3)
    have HBQ3 := hid (HBQ.out.below hb3)
    have HC3 := hid (HC1.out.below hb3)
    have RD3 := hid (RD1.out.below hb3)
    obtain ⟨s0, s1, s2, s3, s4⟩ := HBQ3.out.facts
    clear hr hb3
    go_wp2_with fail
    refine Calls.mono (K.out _ _ RD3.out) ?_
    rintro e w4 ⟨rfl, hb4⟩
    clear s0 s1 s2 s3 s4
    have hbox := (Below.refl w4.heap.size w4).alloc (Nat.le_refl _) (.cells #[.bool kk.neg, .string kk.num, .string kk.den] 25)
    have bk := Bx.new w4 kk
    have hsz4 : w2.heap.size < w4.heap.size := by have := HBX.out.size; have a1 := hb4.size; have a2 := HC3.out.facts (k := 0) (by rw [List.length_map, ← HDL.out]; exact hn0); have a3 := HBQ3.out.facts.2.2.2.2; omega
    have ST := hid (⟨(HX.out.step hb4).step hbox, (HBQ3.out.below hb4).below hbox, bk, (HR.out.below hb4).below hbox, (HC3.out.below hb4).below hbox⟩ : GSt w (w4.alloc (.cells #[.bool kk.neg, .string kk.num, .string kk.den] 25)) w2.heap.size w4.heap.size rb g cap q kk (gR (qAmt x) ds) (ds.map enc))
    have hgr : g ≠ rb := by have : (w2.alloc (.cells #[.bool q.neg, .string q.num, .string q.den] 25)).heap.size = w2.heap.size + 1 := by simp
                            omega
    obtain ⟨W0, hW0⟩ : ∃ W0, W0 = w4.alloc (.cells #[.bool kk.neg, .string kk.num, .string kk.den] 25) := ⟨_, rfl⟩
    rw [← hW0] at ST
    have hrem : Int.tmod (at_ : Int) (n : Int) = ((at_ % n : Nat) : Int) := rfl
    have hi0 : at_ % n < n := Nat.mod_lt _ hn0
    generalize at_ % n = i0 at *
    clear HX HBQ3 HR HC3 RD3 hb4 hbox bk RD1 HC1 HBQ HBX A1 A2 R K
    have hlen : i0 < (ds.map enc).length := by rw [List.length_map, ← HDL.out]; exact hi0
    have hgE : (ds.map enc).getD i0 gZ = enc (ds.getD i0 0) := by simp [List.getD, show i0 < ds.length by rw [← HDL.out]; exact hi0]
    have AD := hid (fun w => qAdd_any (enc (ds.getD i0 0)) (enc (qAmt y)) 1 1 w (sB_enc (QDH.out i0)) (sB_enc (amt_qB y)) (by decide) (by decide) (by decide) (by decide))
    rw [qOf_enc, qOf_enc] at AD
    obtain ⟨de, hde⟩ : ∃ de, de = enc (ds.getD i0 0) := ⟨_, rfl⟩
    obtain ⟨dn, hdn⟩ : ∃ dn, dn = enc (ds.getD i0 0 + qAmt y) := ⟨_, rfl⟩
    rw [← hde, ← hdn] at AD
    rw [← hde] at hgE
    generalize enc (qAmt y) = qy at *
    have HDN := hid hdn
    have hE := hid (show (ds.map enc).set i0 dn = (ds.set i0 (ds.getD i0 0 + qAmt y)).map enc by rw [hdn, List.map_set])
    clear hde hdn
    unfold vRat at AD
    have hb3 : (0 : Int) ≤ (i0 : Int) := by omega
    have hb4 : (i0 : Int) < (n : Int) := by omega
    have HGE := hid hgE
    clear hgE
    have FX := hid (fun (wx : World) (h : GSt w wx w2.heap.size w4.heap.size rb g cap q kk (gR (qAmt x) ds) (ds.map enc)) => h.2.2.2.2.facts hlen)
    rw [HGE.out] at FX
    have HLEN := hid hlen
    clear hlen
    go_upto_region 7 with fail
    rw [← hW0]
    clear hW0
    go_cut [] (fun wx => GSt w wx w2.heap.size w4.heap.size rb g cap q kk (gR (qAmt x) ds) ((ds.set i0 (ds.getD i0 0 + qAmt y)).map enc))
    case first =>
      obtain ⟨c0, c1, c2, c3, c4⟩ := FX.out _ ST.out
      go_region_with (first
        | (go_at_call 10; refine Calls.mono (AY.out _) ?_; rintro e wa ⟨rfl, hba⟩; have st1 := GSt.next (GSt.drew ST.out) hba; clear c0 c1 c2 c3 c4; obtain ⟨c0, c1, c2, c3, c4⟩ := FX.out _ st1)
        | (go_at_call 21; refine Calls.mono (AD.out _) ?_; rintro e wb ⟨rfl, hbb⟩; have st2 := st1.next hbb; clear c0 c1 c2 c3 c4; obtain ⟨c0, c1, c2, c3, c4⟩ := FX.out _ st2))
      all_goals (go_wp2; go_meet; rw [← hE.out]; exact st2.put (by omega) (by omega) hgr (by omega) HLEN.out dn)
    case rest =>
      have hi1 : i0 < ds.length := by rw [← HDL.out]; exact hi0
      have LG1 := LG.out i0 hi1
      have R3 := hid (R2.out i0)
      have K3 := hid (K2.out i0)
      have CK3 := hid (CKK.out i0)
      have QR3 := hid (QR2.out i0)
      have sB3 := es.out i0
      have len2 : (ds.set i0 (ds.getD i0 0 + qAmt y)).length = n := by rw [List.length_set, ← HDL.out]
      clear R2 K2 CKK QR2 LG ST FX AD AY hE HDN HGE es
      generalize ds.set i0 (ds.getD i0 0 + qAmt y) = d2 at *
      have ck := qCmp_le LG1.2
      generalize qCmp (gK (qAmt x) ds) (gK (qAmt x) d2) = ckv at *
      generalize enc (gK (qAmt x) d2) = k2v at *
      have LG2 := hid LG1.1
      have CKH := hid ck
      have rd := hcut.2.2.2.2.reads (fun r hr => (sB3 r hr).mono (by unfold maxLen; omega))
      rw [List.length_map, len2] at rd
      obtain ⟨c0, c1, c2, c3, c4⟩ := hcut.2.1.facts
      have RD := hid rd
      have ST := hid hcut
      have LEN2 := hid len2
      clear rd hcut LG1 ck sB3 len2
      go_wp2_with fail
      refine Calls.mono (R3.out _ _ RD.out) ?_
      rintro e w5 ⟨u, rfl, hr, hb5, sb, rfl, hsb⟩
      rw [LEN2.out] at hr ⊢
      have HS := hid (CR.of hr (by rw [gR_len, LEN2.out]; exact hn0))
      have ST5 := hid (ST.out.next hb5)
      have RD5 := hid (RD.out.below hb5)
      clear c0 c1 c2 c3 c4 hr hb5 RD ST R3
      go_wp2
      go_loopw [15, 62] (fun _ i wr => ∃ k : Nat, k ≤ n ∧ i = .int .i64 k ∧ Below w5.heap.size w5 wr) (fun _ i _ => n - (intOf i).toNat)
      case atStart => exact ⟨0, Nat.zero_le _, rfl, Below.refl _ _⟩
      case round =>
        obtain ⟨j, hj, rfl, hbo⟩ := hrel
        by_cases hlt : j < n
        · have j1 : j < (gR (qAmt x) ds).length := by rw [gR_len, ← HDL.out]; exact hlt
          have j2 : j < (gR (qAmt x) d2).length := by rw [gR_len, LEN2.out]; exact hlt
          have CM := hid (fun w => qCompare_any (enc ((gR (qAmt x) ds).getD j 0)) (enc ((gR (qAmt x) d2).getD j 0)) 200 1000 w (sB_enc (QGR j)) (sB_enc (QR3.out j)) (by decide) (by decide) (by decide) (by decide))
          rw [qOf_enc, qOf_enc] at CM
          have cm := qCmp_le (LG2.out j (by rw [← HDL.out]; exact hlt))
          have HK := hid (fun (W : World) (hb : Below w5.heap.size w5 W) => (⟨(ST5.out.2.2.2.1.below hb).2 j j1, (HS.out.below hb).2 j j2⟩ : C3 W rb (j * 3) (enc ((gR (qAmt x) ds).getD j 0)) ∧ C3 W sb (j * 3) (enc ((gR (qAmt x) d2).getD j 0))))
          generalize qCmp ((gR (qAmt x) ds).getD j 0) ((gR (qAmt x) d2).getD j 0) = cmv at *
          generalize enc ((gR (qAmt x) ds).getD j 0) = ya at *
          generalize enc ((gR (qAmt x) d2).getD j 0) = za at *
          have f2 : decide ((0 : Int) < cmv) = false := by simp; omega
          have F2 := hid f2
          have hb6 : (0 : Int) ≤ (j : Int) := by omega
          have hb7 : (j : Int) < (n : Int) := by omega
          unfold vRat at CM
          have HBO := hid hbo
          obtain ⟨⟨p0, p1, p2⟩, ⟨q0, q1, q2⟩⟩ := HK.out _ hbo
          clear hbo cm f2
          go_wp2_with fail
          go_region_held3 (fun w' => w'.cell? ⟨rb, j * 3, none⟩ = some (.bool ya.neg) ∧ w'.cell? ⟨rb, j * 3 + 1, none⟩ = some (.string ya.num) ∧ w'.cell? ⟨rb, j * 3 + 2, none⟩ = some (.string ya.den) ∧ w'.cell? ⟨sb, j * 3, none⟩ = some (.bool za.neg) ∧ w'.cell? ⟨sb, j * 3 + 1, none⟩ = some (.string za.num) ∧ w'.cell? ⟨sb, j * 3 + 2, none⟩ = some (.string za.den)) (go_keep)
            (first
              | (go_at_call 22; refine Calls.mono (CM.out _) ?_; rintro e wa ⟨rfl, hba⟩; have ha := Below.step (Below.drew HBO.out) hba; clear p0 p1 p2 q0 q1 q2; obtain ⟨⟨p0, p1, p2⟩, ⟨q0, q1, q2⟩⟩ := HK.out _ ha; have g1 := F2.out))
          have HB := hid ha
          clear ha p0 p1 p2 q0 q1 q2 hba
          go_wp2
          go_roundw
          case rel => exact ⟨j + 1, hlt, by go_num, HB.out⟩
          case measure => simp [intOf]; omega
        · have STo := hid (ST5.out.next hbo)
          have RDo := hid (RD5.out.below hbo)
          have G := hid (fun (W : World) (h : GSt w W w2.heap.size w4.heap.size rb g cap q kk (gR (qAmt x) ds) (d2.map enc)) => And.intro h.2.1.facts h.2.2.1.facts)
          obtain ⟨⟨p0, p1, p2, p3, p4⟩, ⟨q0, q1, q2, q3, q4⟩⟩ := G.out _ STo.out
          have hck : decide (ckv ≤ (0 : Int)) = true := by simpa using CKH.out
          have HCK := hid hck
          clear hbo hck
          go_wp2_with fail
          go_region_held3 (fun w' => w'.cell? ⟨w2.heap.size, 0, none⟩ = some (.bool q.neg) ∧ w'.cell? ⟨w2.heap.size, 1, none⟩ = some (.string q.num) ∧ w'.cell? ⟨w2.heap.size, 2, none⟩ = some (.string q.den) ∧ w'.cell? ⟨w4.heap.size, 0, none⟩ = some (.bool kk.neg) ∧ w'.cell? ⟨w4.heap.size, 1, none⟩ = some (.string kk.num) ∧ w'.cell? ⟨w4.heap.size, 2, none⟩ = some (.string kk.den)) (go_keep)
            (first
              | (go_at_call 14; refine Calls.mono (AW.out _) ?_; rintro e wa ⟨rfl, hba⟩; have ha := GSt.next (GSt.drew STo.out) hba; have rda := RL.below (RL.below RDo.out (Below.drew (Below.refl _ _))) hba; clear p0 p1 p2 p3 p4 q0 q1 q2 q3 q4; obtain ⟨⟨p0, p1, p2, p3, p4⟩, ⟨q0, q1, q2, q3, q4⟩⟩ := G.out _ ha)
              | (go_at_call 19; refine Calls.mono (K3.out _ _ rda) ?_; rintro e wb ⟨rfl, hbb⟩; have hb := GSt.next ha hbb; clear p0 p1 p2 p3 p4 q0 q1 q2 q3 q4; obtain ⟨⟨p0, p1, p2, p3, p4⟩, ⟨q0, q1, q2, q3, q4⟩⟩ := G.out _ hb)
              | (go_at_call 22; refine Calls.mono (CK3.out _) ?_; rintro e wc ⟨rfl, hbc⟩; have hc := GSt.next hb hbc; clear p0 p1 p2 p3 p4 q0 q1 q2 q3 q4; obtain ⟨⟨p0, p1, p2, p3, p4⟩, ⟨q0, q1, q2, q3, q4⟩⟩ := G.out _ hc; have g9 := HCK.out))
          go_wp2
          go_ret
          exact ⟨rfl, hc.1⟩

end Go.Proofs.YtgmedcncbpdimaaDoor
