/- Options and disputes: plain; what the laws' few says of them. -/
import Derived.Test.YtgmedcncbpdimaaDoorGu4M
import Derived.Test.YtgmedcncbpdimaaDoorCmp1M
import Derived.Test.YtgmedcncbpdimaaDoorAdd2M
import Derived.Test.YtgmedcncbpdimaaDoorBkM
import Derived.Test.YtgmedcncbpdimaaDoorLast0M
import Derived.Deep.DeepCutAuto
set_option linter.unusedVariables false
set_option linter.unusedSimpArgs false
section
/- Options and disputes: plain; what the laws' few says of them. -/
namespace Go.Proofs.YtgmedcncbpdimaaDoor
open Go.RowKit

theorem qmax_self (q : Rat) : qmax q q = q := by unfold qmax; split <;> rfl
theorem qmin_self (q : Rat) : qmin q q = q := by unfold qmin; split <;> rfl
theorem qmax_qB {m : Nat} {a b : Rat} (ha : qB m a) (hb : qB m b) : qB m (qmax a b) := by unfold qmax; split <;> assumption
theorem qmin_qB {m : Nat} {a b : Rat} (ha : qB m a) (hb : qB m b) : qB m (qmin a b) := by unfold qmin; split <;> assumption

def oZ : GOpt := ⟨gZ, 0⟩
/-- The k-th amount and rank. -/
noncomputable def oq (l : List GOpt) (k : Nat) : Rat := qOf (l.getD k oZ).amount
def ork (l : List GOpt) (k : Nat) : Int := (l.getD k oZ).rank
def imin (a b : Int) : Int := min a b
theorem imin_self (a : Int) : imin a a = a := by unfold imin; omega
theorem imin_ok {a b : Int} (ha : i64ok a) (hb : i64ok b) : i64ok (imin a b) := by unfold imin i64ok at *; omega
/-- The greatest amount, the least amount, the most senior rank of the first k. -/
noncomputable def gTop (l : List GOpt) : Nat → Rat
  | 0 => oq l 0
  | k + 1 => qmax (gTop l k) (oq l k)
noncomputable def gLow (l : List GOpt) : Nat → Rat
  | 0 => oq l 0
  | k + 1 => qmin (gLow l k) (oq l k)
def gSen (l : List GOpt) : Nat → Int
  | 0 => ork l 0
  | k + 1 => imin (gSen l k) (ork l k)
theorem gTop_one (l : List GOpt) : gTop l 1 = oq l 0 := qmax_self _
theorem gLow_one (l : List GOpt) : gLow l 1 = oq l 0 := qmin_self _
theorem gSen_one (l : List GOpt) : gSen l 1 = ork l 0 := imin_self _

def fewOpts (l : List GOpt) : Bool := decide (l.length ≤ 6) && l.all fun o => decide (o.amount.num.size ≤ 24) && decide (o.amount.den.size ≤ 24)
def fewDisps (l : List GDisp) : Bool := decide (l.length ≤ 10) && l.all fun d => fewOpts d.opts
theorem few_amount {l : List GOpt} (h : fewOpts l = true) (k : Nat) : sB 24 (l.getD k oZ).amount := by
  unfold fewOpts at h
  simp only [Bool.and_eq_true, decide_eq_true_eq, List.all_eq_true] at h
  rcases Nat.lt_or_ge k l.length with h1 | h1
  · have := h.2 (l[k]) (List.getElem_mem h1)
    simp only [List.getD, List.getElem?_eq_getElem h1, Option.getD_some]
    exact ⟨this.1, this.2⟩
  · simp only [List.getD, List.getElem?_eq_none h1, Option.getD_none]
    exact ⟨by decide, by decide⟩
theorem few_oq {l : List GOpt} (h : fewOpts l = true) (k : Nat) : qB 24 (oq l k) := (few_amount h k).qB (by decide)
theorem few_top {l : List GOpt} (h : fewOpts l = true) (k : Nat) : qB 24 (gTop l k) := by
  induction k with
  | zero => exact few_oq h 0
  | succ k ih => exact qmax_qB ih (few_oq h k)
theorem few_low {l : List GOpt} (h : fewOpts l = true) (k : Nat) : qB 24 (gLow l k) := by
  induction k with
  | zero => exact few_oq h 0
  | succ k ih => exact qmin_qB ih (few_oq h k)

/-- The ranks of the first k are the first one's. -/
def sameRank (l : List GOpt) (k : Nat) : Prop := ∀ j, j < k → ork l j = ork l 0
/-- The certain amount. -/
noncomputable def gCert (l : List GOpt) : Rat := open Classical in if l.length = 0 then 0 else if sameRank l l.length then gLow l l.length else 0
theorem gCert_no {l : List GOpt} {j : Nat} (hj : j < l.length) (h : ork l j ≠ ork l 0) : gCert l = 0 := by
  unfold gCert
  rw [if_neg (by omega), if_neg (fun hs => h (hs j hj))]
theorem gCert_yes {l : List GOpt} (hl : 0 < l.length) (h : sameRank l l.length) : gCert l = gLow l l.length := by
  unfold gCert
  rw [if_neg (by omega), if_pos h]
theorem gCert_nil {l : List GOpt} (hl : l.length = 0) : gCert l = 0 := by
  unfold gCert; rw [if_pos hl]

/-- A slice of options, opened. -/
theorem opts_open {w : World} {B : Nat → Prop} {v : Value} {l : List GOpt} (h : rSlice 4 rOpt w B [v] l) :
    ∃ a cap, v = .slice a l.length cap ∧ l.length ≤ 9223372036854775807 ∧ (l = [] ∨ ∃ b off, a = some ⟨b, off, none⟩ ∧ B b ∧ ∀ j, j < l.length → w.cell? ⟨b, off + j * 4, none⟩ = some (.bool (l.getD j oZ).amount.neg) ∧ w.cell? ⟨b, off + j * 4 + 1, none⟩ = some (.string (l.getD j oZ).amount.num) ∧ w.cell? ⟨b, off + j * 4 + 2, none⟩ = some (.string (l.getD j oZ).amount.den) ∧ w.cell? ⟨b, off + j * 4 + 3, none⟩ = some (.int .i64 (l.getD j oZ).rank) ∧ i64ok (l.getD j oZ).rank ∧ sB maxLen (l.getD j oZ).amount) := by
  obtain ⟨a, cap, hv, h1, h2, h3, h4⟩ := h
  simp only [List.cons.injEq, and_true] at hv
  refine ⟨a, cap, hv, len_le h1 h2, ?_⟩
  rcases h4 with h4 | ⟨b, off, h5, h6, h7⟩
  · exact .inl h4
  · refine .inr ⟨b, off, h5, h6, fun j hj => ?_⟩
    obtain ⟨cs, k1, k2, rfl, k3, k4, k5⟩ := h7 j hj
    have e : l.getD j oZ = l[j] := by simp [List.getD, hj]
    rw [e]
    exact ⟨k2 0 (by decide), k2 1 (by decide), k2 2 (by decide), k2 3 (by decide), k5, k3, k4⟩

end Go.Proofs.YtgmedcncbpdimaaDoor
end
section
/- insolvencyref1.Max, Min; dispute.clean, Greatest, Certain; insolvencyref21.Greatest, Certain: walked. -/
namespace Go.Proofs.YtgmedcncbpdimaaDoor
open Go.RowKit
attribute [local go_sem ↓] Go.wp_at_zero Go.wp_at_succ

def vOpt (r : GRat) (k : Int) : Value := .agg #[.bool r.neg, .string r.num, .string r.den, .int .i64 k]


set_option maxRecDepth 100000 in
set_option maxHeartbeats 4000000 in
theorem rMax_any (r1 r2 : GRat) (m n : Nat) (w : World) (h1 : sB m r1) (h2 : sB n r2) (hm : m ≤ 100000000000) (hn : n ≤ 100000000000) (hm0 : 0 < m) (hn0 : 0 < n) :
    Calls Tryd.prog 58 #[vRat r1, vRat r2] w fun e w' => e = .returned (vRat (enc (qmax (qOf r1) (qOf r2)))) ∧ Below w.heap.size w w' := by
  have C1 := hid (fun w => rFix_any r1 w (by have := h1.1; omega) (by have := h1.2; omega))
  have C2 := hid (fun w => rFix_any r2 w (by have := h2.1; omega) (by have := h2.2; omega))
  have AD := hid (fun w => rGreater_any (qOf r1) (qOf r2) m n w (h1.qB hm0) (h2.qB hn0) (by omega) (by omega))
  generalize enc (qmax (qOf r1) (qOf r2)) = c at *
  generalize enc (qOf r1) = a at *
  generalize enc (qOf r2) = b at *
  clear h1 h2 hm hn hm0 hn0
  unfold vRat at C1 C2 AD
  unfold vRat
  have st0 := (BK.push (BK.push (BK.push (BK.nil w) 25 [.bool r1.neg, .string r1.num, .string r1.den] (b := w.heap.size) (by simp)) 25 [.bool r2.neg, .string r2.num, .string r2.den] (b := w.heap.size + 1) (by simp)) 25 [.bool false, .string { data := #[] }, .string { data := #[] }] (b := w.heap.size + 1 + 1) (by simp))
  obtain ⟨xc, xf, xl, xg⟩ := BK.cell st0 2 rfl
  have x0 := xc 0 _ rfl
  have x1 := xc 1 _ rfl
  have x2 := xc 2 _ rfl
  clear xc
  obtain ⟨yc, yf, yl, yg⟩ := BK.cell st0 1 rfl
  have y0 := yc 0 _ rfl
  have y1 := yc 1 _ rfl
  have y2 := yc 2 _ rfl
  clear yc
  have ST0 := hid st0
  clear st0
  go_enter Tryd.func58, Tryd.ntmps58
  go_wp2_with fail
  refine wp_region_sched (by kernel_rfl) [(0, true), (2, true), (1, false), (3, false), (4, false), (5, false)] (fun i => decide (i < 5)) (by kernel_rfl) (fun _ _ d _ _ h => by cases d <;> exact h) ?_
  refine wpS_take (o := ?o0_1_1) (v := ?v0_1_1) (a' := ?aa0_1_1) ?hi0_1_1 (Or.inl ⟨?hw0_1_1, ?hy0_1_1⟩) ?ha0_1_1 ?rest0_1_1
  case hi0_1_1 => (simp [go_sem]; rfl)
  case hw0_1_1 => rfl
  case hy0_1_1 => (intro w0 hF0; have hR0 := fun p h => FL.cell (p := p) hF0 h; first | (go_simp; done) | (go_simp; with_reducible rfl))
  case ha0_1_1 => (go_simp; rfl)
  refine wpS_take (o := ?o2_1_1) (v := ?v2_1_1) (a' := ?aa2_1_1) ?hi2_1_1 (Or.inl ⟨?hw2_1_1, ?hy2_1_1⟩) ?ha2_1_1 ?rest2_1_1
  case hi2_1_1 => (simp [go_sem]; rfl)
  case hw2_1_1 => rfl
  case hy2_1_1 => (intro w0 hF0; have hR0 := fun p h => FL.cell (p := p) hF0 h; first | (go_simp; done) | (go_simp; with_reducible rfl))
  case ha2_1_1 => (go_simp; rfl)
  refine wpS_eff (o := ?o1_1_1) ?hi1_1_1 ?hw1_1_1 (by rfl) (fun K hK => ?rest1_1_1)
  case hi1_1_1 => (simp [go_sem]; rfl)
  case hw1_1_1 => rfl
  go_simp
  refine Calls.mono (C1.out _) ?_
  rintro e w1_ ⟨rfl, hb1_⟩
  have st1_ := BK.next (BK.drew ST0.out) hb1_
  clear x0 x1 x2 xf xl xg y0 y1 y2 yf yl yg
  obtain ⟨yc, yf, yl, yg⟩ := BK.cell st1_ 1 rfl
  have y0 := yc 0 _ rfl
  have y1 := yc 1 _ rfl
  have y2 := yc 2 _ rfl
  clear yc
  go_simp
  refine hK _ _ (FL.of_below hb1_) ?_
  clear hK K
  refine wpS_eff (o := ?o3_1_1) ?hi3_1_1 ?hw3_1_1 (by rfl) (fun K hK => ?rest3_1_1)
  case hi3_1_1 => (simp [go_sem]; rfl)
  case hw3_1_1 => rfl
  go_simp
  refine Calls.mono (C2.out _) ?_
  rintro e w2_ ⟨rfl, hb2_⟩
  have st2_ := BK.next st1_ hb2_
  clear y0 y1 y2 yf yl yg
  go_simp
  refine hK _ _ (FL.of_below hb2_) ?_
  clear hK K
  refine wpS_eff (o := ?o4_1_1) ?hi4_1_1 ?hw4_1_1 (by rfl) (fun K hK => ?rest4_1_1)
  case hi4_1_1 => (simp [go_sem]; rfl)
  case hw4_1_1 => rfl
  go_simp
  refine Calls.mono (AD.out _) ?_
  rintro e w3_ ⟨rfl, hb3_⟩
  have st3_ := BK.next st2_ hb3_
  obtain ⟨zc, zf, zl, zg⟩ := BK.cell st3_ 0 rfl
  have z0 := zc 0 _ rfl
  have z1 := zc 1 _ rfl
  have z2 := zc 2 _ rfl
  clear zc
  go_simp
  refine hK _ _ (FL.of_below hb3_) ?_
  clear hK K
  refine wpS_tail 5 (fun j hj => by simp; omega) ?_
  simp only [List.drop_succ_cons, List.drop_zero]
  have st4_ := BK.put3 st3_ 0 rfl 0 (.bool c.neg) (.string c.num) (.string c.den)
  go_wp2
  refine ret_bk (.agg #[.bool c.neg, .string c.num, .string c.den]) st4_ 0 rfl (fun W_ c_ => by have c0_ := c_ 0 _ rfl; have c1_ := c_ 1 _ rfl; have c2_ := c_ 2 _ rfl; simp [results, Tryd.results58, go_sem, c0_, c1_, c2_]) rfl ⟨rfl, st4_.1⟩

set_option maxRecDepth 100000 in
set_option maxHeartbeats 4000000 in
theorem rMin_any (r1 r2 : GRat) (m n : Nat) (w : World) (h1 : sB m r1) (h2 : sB n r2) (hm : m ≤ 100000000000) (hn : n ≤ 100000000000) (hm0 : 0 < m) (hn0 : 0 < n) :
    Calls Tryd.prog 59 #[vRat r1, vRat r2] w fun e w' => e = .returned (vRat (enc (qmin (qOf r1) (qOf r2)))) ∧ Below w.heap.size w w' := by
  have C1 := hid (fun w => rFix_any r1 w (by have := h1.1; omega) (by have := h1.2; omega))
  have C2 := hid (fun w => rFix_any r2 w (by have := h2.1; omega) (by have := h2.2; omega))
  have AD := hid (fun w => rLesser_any (qOf r1) (qOf r2) m n w (h1.qB hm0) (h2.qB hn0) (by omega) (by omega))
  generalize enc (qmin (qOf r1) (qOf r2)) = c at *
  generalize enc (qOf r1) = a at *
  generalize enc (qOf r2) = b at *
  clear h1 h2 hm hn hm0 hn0
  unfold vRat at C1 C2 AD
  unfold vRat
  have st0 := (BK.push (BK.push (BK.push (BK.nil w) 25 [.bool r1.neg, .string r1.num, .string r1.den] (b := w.heap.size) (by simp)) 25 [.bool r2.neg, .string r2.num, .string r2.den] (b := w.heap.size + 1) (by simp)) 25 [.bool false, .string { data := #[] }, .string { data := #[] }] (b := w.heap.size + 1 + 1) (by simp))
  obtain ⟨xc, xf, xl, xg⟩ := BK.cell st0 2 rfl
  have x0 := xc 0 _ rfl
  have x1 := xc 1 _ rfl
  have x2 := xc 2 _ rfl
  clear xc
  obtain ⟨yc, yf, yl, yg⟩ := BK.cell st0 1 rfl
  have y0 := yc 0 _ rfl
  have y1 := yc 1 _ rfl
  have y2 := yc 2 _ rfl
  clear yc
  have ST0 := hid st0
  clear st0
  go_enter Tryd.func59, Tryd.ntmps59
  go_wp2_with fail
  refine wp_region_sched (by kernel_rfl) [(0, true), (2, true), (1, false), (3, false), (4, false), (5, false)] (fun i => decide (i < 5)) (by kernel_rfl) (fun _ _ d _ _ h => by cases d <;> exact h) ?_
  refine wpS_take (o := ?o0_1_2) (v := ?v0_1_2) (a' := ?aa0_1_2) ?hi0_1_2 (Or.inl ⟨?hw0_1_2, ?hy0_1_2⟩) ?ha0_1_2 ?rest0_1_2
  case hi0_1_2 => (simp [go_sem]; rfl)
  case hw0_1_2 => rfl
  case hy0_1_2 => (intro w0 hF0; have hR0 := fun p h => FL.cell (p := p) hF0 h; first | (go_simp; done) | (go_simp; with_reducible rfl))
  case ha0_1_2 => (go_simp; rfl)
  refine wpS_take (o := ?o2_1_2) (v := ?v2_1_2) (a' := ?aa2_1_2) ?hi2_1_2 (Or.inl ⟨?hw2_1_2, ?hy2_1_2⟩) ?ha2_1_2 ?rest2_1_2
  case hi2_1_2 => (simp [go_sem]; rfl)
  case hw2_1_2 => rfl
  case hy2_1_2 => (intro w0 hF0; have hR0 := fun p h => FL.cell (p := p) hF0 h; first | (go_simp; done) | (go_simp; with_reducible rfl))
  case ha2_1_2 => (go_simp; rfl)
  refine wpS_eff (o := ?o1_1_2) ?hi1_1_2 ?hw1_1_2 (by rfl) (fun K hK => ?rest1_1_2)
  case hi1_1_2 => (simp [go_sem]; rfl)
  case hw1_1_2 => rfl
  go_simp
  refine Calls.mono (C1.out _) ?_
  rintro e w1_ ⟨rfl, hb1_⟩
  have st1_ := BK.next (BK.drew ST0.out) hb1_
  clear x0 x1 x2 xf xl xg y0 y1 y2 yf yl yg
  obtain ⟨yc, yf, yl, yg⟩ := BK.cell st1_ 1 rfl
  have y0 := yc 0 _ rfl
  have y1 := yc 1 _ rfl
  have y2 := yc 2 _ rfl
  clear yc
  go_simp
  refine hK _ _ (FL.of_below hb1_) ?_
  clear hK K
  refine wpS_eff (o := ?o3_1_2) ?hi3_1_2 ?hw3_1_2 (by rfl) (fun K hK => ?rest3_1_2)
  case hi3_1_2 => (simp [go_sem]; rfl)
  case hw3_1_2 => rfl
  go_simp
  refine Calls.mono (C2.out _) ?_
  rintro e w2_ ⟨rfl, hb2_⟩
  have st2_ := BK.next st1_ hb2_
  clear y0 y1 y2 yf yl yg
  go_simp
  refine hK _ _ (FL.of_below hb2_) ?_
  clear hK K
  refine wpS_eff (o := ?o4_1_2) ?hi4_1_2 ?hw4_1_2 (by rfl) (fun K hK => ?rest4_1_2)
  case hi4_1_2 => (simp [go_sem]; rfl)
  case hw4_1_2 => rfl
  go_simp
  refine Calls.mono (AD.out _) ?_
  rintro e w3_ ⟨rfl, hb3_⟩
  have st3_ := BK.next st2_ hb3_
  obtain ⟨zc, zf, zl, zg⟩ := BK.cell st3_ 0 rfl
  have z0 := zc 0 _ rfl
  have z1 := zc 1 _ rfl
  have z2 := zc 2 _ rfl
  clear zc
  go_simp
  refine hK _ _ (FL.of_below hb3_) ?_
  clear hK K
  refine wpS_tail 5 (fun j hj => by simp; omega) ?_
  simp only [List.drop_succ_cons, List.drop_zero]
  have st4_ := BK.put3 st3_ 0 rfl 0 (.bool c.neg) (.string c.num) (.string c.den)
  go_wp2
  refine ret_bk (.agg #[.bool c.neg, .string c.num, .string c.den]) st4_ 0 rfl (fun W_ c_ => by have c0_ := c_ 0 _ rfl; have c1_ := c_ 1 _ rfl; have c2_ := c_ 2 _ rfl; simp [results, Tryd.results59, go_sem, c0_, c1_, c2_]) rfl ⟨rfl, st4_.1⟩

set_option maxRecDepth 100000 in
set_option maxHeartbeats 4000000 in
theorem clean_any (r : GRat) (m : Nat) (w : World) (h : sB m r) (hm : m ≤ 100000000000) (hm0 : 0 < m) :
    Calls Tryd.prog 55 #[vRat r] w fun e w' => e = .returned (vRat (enc (qOf r))) ∧ Below w.heap.size w w' := by
  have AD := hid (fun w => qAdd_any r gZ m 1 w h sB_gZ hm (by decide) hm0 (by decide))
  rw [qOf_gZ, Rat.add_zero] at AD
  generalize enc (qOf r) = c at *
  clear h hm hm0
  unfold vRat at AD
  unfold vRat
  have st0 := (BK.push (BK.push (BK.nil w) 25 [.bool r.neg, .string r.num, .string r.den] (b := w.heap.size) (by simp)) 25 [.bool false, .string { data := #[] }, .string { data := #[] }] (b := w.heap.size + 1) (by simp))
  obtain ⟨xc, xf, xl, xg⟩ := BK.cell st0 1 rfl
  have x0 := xc 0 _ rfl
  have x1 := xc 1 _ rfl
  have x2 := xc 2 _ rfl
  clear xc
  have ST0 := hid st0
  clear st0
  go_enter Tryd.func55, Tryd.ntmps55
  go_wp2_with fail
  refine Calls.mono (AD.out _) ?_
  rintro e w1_ ⟨rfl, hb1_⟩
  have st1_ := BK.next ST0.out hb1_
  clear x0 x1 x2 xf xl xg
  obtain ⟨zc, zf, zl, zg⟩ := BK.cell st1_ 0 rfl
  have z0 := zc 0 _ rfl
  have z1 := zc 1 _ rfl
  have z2 := zc 2 _ rfl
  clear zc
  have st2_ := BK.put3 st1_ 0 rfl 0 (.bool c.neg) (.string c.num) (.string c.den)
  go_wp2
  refine ret_bk (.agg #[.bool c.neg, .string c.num, .string c.den]) st2_ 0 rfl (fun W_ c_ => by have c0_ := c_ 0 _ rfl; have c1_ := c_ 1 _ rfl; have c2_ := c_ 2 _ rfl; simp [results, Tryd.results55, go_sem, c0_, c1_, c2_]) rfl ⟨rfl, st2_.1⟩

end Go.Proofs.YtgmedcncbpdimaaDoor
end
