/- Amounts, its row as the call's own; rows with room. -/
import Derived.Test.YtgmedcncbpdimaaDoorGu2M
set_option linter.unusedVariables false
set_option linter.unusedSimpArgs false
set_option linter.unusedSectionVars false
/- Amounts, its row as the call's own; rows with room. -/
namespace Go.Proofs.YtgmedcncbpdimaaDoor
open Go.RowKit

set_option maxRecDepth 100000 in
theorem Amounts_own (v : Value) (xs : List Nat) (n : Nat) (w : World) (hn : n ≤ 1000) (hv : rSlice 1 rU16 w (LT w.heap.size) [v] xs) :
    Calls Tryd.prog 11 #[v, .int .i64 n] w fun e w' => ∃ u, e = .returned u ∧ rGrow 25 3 rRat w.heap.size w' u ((xs.take n).map fun x => enc (qAmt x)) ∧ Below w.heap.size w w' := by
  obtain ⟨a, cap, hv', h1, h2, h3, h4⟩ := hv
  simp only [List.cons.injEq, and_true] at hv'
  subst hv'
  have hl := len_le h1 h2
  go_enter Tryd.func11, Tryd.ntmps11
  go_wp2
  go_loopw [5, 6] (fun p i wr => ∃ k : Nat, k ≤ xs.length ∧ k ≤ n ∧ i = .int .i64 k ∧ Below w.heap.size w wr ∧ rGrow 25 3 rRat w.heap.size wr p ((xs.take k).map fun x => enc (qAmt x))) (fun _ i _ => xs.length - (intOf i).toNat)
  case atStart => exact ⟨0, Nat.zero_le _, Nat.zero_le _, rfl, Below.refl _ _, rGrow.nil _ _ _ _ _⟩
  case round =>
    obtain ⟨k, hk, hkn, rfl, hbw, hg⟩ := hrel
    by_cases hlt : k < xs.length
    · by_cases hlt2 : k < n
      · rcases h4 with rfl | ⟨b, off, rfl, h4⟩
        · simp at hlt
        obtain ⟨g0, g1⟩ := h4.u16 hlt
        rw [← hbw.cell (p := ⟨b, off + k, none⟩) h4.1] at g0
        have HT := hid (show (xs.take k).map (fun x => enc (qAmt x)) ++ [enc (qAmt xs[k])] = (xs.take (k + 1)).map fun x => enc (qAmt x) by rw [List.take_succ_eq_append_getElem hlt, List.map_append]; rfl)
        obtain ⟨x, hx⟩ : ∃ x, x = xs[k] := ⟨_, rfl⟩
        rw [← hx] at g0 g1 HT
        have HL := hid (show ((xs.take k).map fun x => enc (qAmt x)).length ≤ 1000 by simp; omega)
        generalize (xs.take k).map (fun x => enc (qAmt x)) = ds at *
        have HA := hid (fun w => Amount_any x w g1)
        have HS := hid (sB_max (sB_enc (amt_qB x)) (by decide))
        generalize enc (qAmt x) = q at *
        unfold vRat at HA
        clear hx
        go_wp2_with fail
        refine Calls.mono (HA.out _) ?_
        rintro e w1 ⟨rfl, hb1⟩
        have hbw1 := hbw.trans (hb1.mono hbw.size)
        have hg1 := hg.kept stays_rRat hb1
        have hg2 := hg1.kept stays_rRat ((Below.refl _ _).alloc (Nat.le_refl _) (.cells #[.bool q.neg, .string q.num, .string q.den] 25))
        have hsz := hbw1.size
        clear hg hg1
        go_wp2_with (at_builtin; refine wpList_push _ rfl _ _ 27 rfl stays_rRat w.heap.size 25 3 40 _ Tryd.underlying27 Tryd.infoRat rfl (by omega) _ ds rfl hg2 ?hbase ?hbytes ?h63 w1.heap.size 1 [.bool q.neg, .string q.num, .string q.den] rfl rfl ?hb rfl q (rRat_new _ _ _ HS.out) ?_)
        case hbase => simp; omega
        case hbytes => have := HL.out; omega
        case h63 => have := HL.out; omega
        case hb => exact ⟨(0, 0), heap_alloc_new _ _⟩
        intro v' w' hg' hgr hbel'
        rw [HT.out] at hg'
        have hbel2 : Below w.heap.size w w' := (hbw1.alloc hsz _).trans hbel'
        clear hg2 hbel' hgr
        go_wp2
        go_roundw
        case rel => exact ⟨k + 1, by omega, by omega, by go_num, hbel2, hg'⟩
        case measure => simp [intOf]; omega
      · have hR := hid hg
        have hkn' : k = n := by omega
        have e : (xs.take k).map (fun x => enc (qAmt x)) = (xs.take n).map fun x => enc (qAmt x) := by rw [hkn']
        rw [e] at hR
        clear hkn' e
        go_wp2
        go_ret
        exact ⟨_, rfl, hR.out, hbw⟩
    · have hR := hid hg
      have e : (xs.take k).map (fun x => enc (qAmt x)) = (xs.take n).map fun x => enc (qAmt x) := by rw [List.take_of_length_le (by omega), List.take_of_length_le (by omega)]
      rw [e] at hR
      clear e
      go_wp2
      go_ret
      exact ⟨_, rfl, hR.out, hbw⟩


/-- Block g is a row of the call's own with room for cap rationals; it reads as rs. -/
def OwnC (w : World) (g cap : Nat) (rs : List GRat) : Prop := rs.length ≤ cap ∧ cap ≤ maxLen ∧ ∃ F, Own w g 25 (cap * 3) F ∧ ∀ j, j < rs.length * 3 → F j = cellF rs j
theorem OwnC.of_grow {w : World} {base : Nat} {v : Value} {rs : List GRat} (h : rGrow 25 3 rRat base w v rs) (hne : rs ≠ []) :
    ∃ g cap, v = .slice (some ⟨g, 0, none⟩) rs.length cap ∧ base ≤ g ∧ OwnC w g cap rs := by
  obtain ⟨xs, ⟨h1, h2⟩, h3⟩ := h
  rcases h2 with ⟨_, h2⟩ | ⟨g, cap, cur, rfl, hb, hg, hn, hc, hs, ht⟩
  · exact absurd (List.eq_nil_of_length_eq_zero h2) hne
  · refine ⟨g, cap, rfl, hb, hn, hc, fun j => cur.getD j undef, ?_, ?_⟩
    · unfold Own
      rw [hg]
      congr 2
      apply Array.ext
      · simp [hs]
      · intro i i1 i2
        simp [Array.getD, i1]
    · intro j hj
      have hk : j / 3 < rs.length := by omega
      obtain ⟨e1, _⟩ := h3 (j / 3) hk
      have hjc : j < cur.size := by rw [hs]; omega
      have e2 : xs[j]? = some (cur.getD j undef) := by
        rw [← ht, List.getElem?_take, if_pos hj]
        simp [Array.getD, hjc]
      have e3 : ((xs.drop (j / 3 * 3)).take 3)[j % 3]? = xs[j]? := by
        rw [List.getElem?_take, if_pos (by omega), List.getElem?_drop, show j / 3 * 3 + j % 3 = j by omega]
      rw [e1, e2] at e3
      have e4 : rs.getD (j / 3) gZ = rs[j / 3] := by simp [List.getD, hk]
      show cur.getD j undef = cellF rs j
      unfold cellF
      rw [e4]
      have : j % 3 = 0 ∨ j % 3 = 1 ∨ j % 3 = 2 := by omega
      rcases this with h | h | h <;> rw [h] at e3 <;> simp [h] at e3 ⊢ <;> exact e3.symm
section
variable {w : World} {g cap : Nat} {rs : List GRat}
theorem OwnC.below {w' : World} (h : OwnC w g cap rs) (hb : Below w.heap.size w w') : OwnC w' g cap rs := by
  obtain ⟨h1, h2, F, h3, h4⟩ := h
  exact ⟨h1, h2, F, h3.below hb h3.lt, h4⟩
theorem OwnC.drew (h : OwnC w g cap rs) : OwnC w.drew g cap rs := h
theorem OwnC.facts (h : OwnC w g cap rs) {k : Nat} (hk : k < rs.length) :
    w.cell? ⟨g, k * 3, none⟩ = some (.bool (rs.getD k gZ).neg) ∧ w.cell? ⟨g, k * 3 + 1, none⟩ = some (.string (rs.getD k gZ).num) ∧ w.cell? ⟨g, k * 3 + 2, none⟩ = some (.string (rs.getD k gZ).den) ∧ (∀ j, w.frozen? ⟨g, j, none⟩ = false) ∧ g < w.heap.size := by
  obtain ⟨h0, _, F, h3, h4⟩ := h
  have a1 := h3.cell (j := k * 3) (by omega)
  have a2 := h3.cell (j := k * 3 + 1) (by omega)
  have a3 := h3.cell (j := k * 3 + 2) (by omega)
  rw [h4 _ (by omega), cellF0] at a1
  rw [h4 _ (by omega), cellF1] at a2
  rw [h4 _ (by omega), cellF2] at a3
  exact ⟨a1, a2, a3, fun j => h3.frozen j, h3.lt⟩
theorem OwnC.put (h : OwnC w g cap rs) {k : Nat} (hk : k < rs.length) (r : GRat) :
    OwnC (((w.setCell ⟨g, k * 3, none⟩ (.bool r.neg)).setCell ⟨g, k * 3 + 1, none⟩ (.string r.num)).setCell ⟨g, k * 3 + 2, none⟩ (.string r.den)) g cap (rs.set k r) := by
  obtain ⟨h1, h2, F, h3, h4⟩ := h
  refine ⟨by rw [List.length_set]; exact h1, h2, _, ((h3.set _ _).set _ _).set _ _, fun j hj => ?_⟩
  rw [List.length_set] at hj
  unfold upd
  by_cases e2 : j = k * 3 + 2
  · rw [if_pos e2, e2, cellF2]; simp [List.getD, hk]
  · rw [if_neg e2]
    by_cases e1 : j = k * 3 + 1
    · rw [if_pos e1, e1, cellF1]; simp [List.getD, hk]
    · rw [if_neg e1]
      by_cases e0 : j = k * 3
      · rw [if_pos e0, e0, cellF0]; simp [List.getD, hk]
      · rw [if_neg e0, h4 j hj]
        have hne : ¬ k = j / 3 := by omega
        unfold cellF
        simp [List.getD, List.getElem?_set, hne]
theorem OwnC.reads (h : OwnC w g cap rs) (hs : ∀ r ∈ rs, sB maxLen r) : RL w (.slice (some ⟨g, 0, none⟩) rs.length cap) rs := by
  have hF := h
  obtain ⟨h1, h2, F, h3, h4⟩ := h
  refine ⟨some ⟨g, 0, none⟩, cap, rfl, h1, h2, by simp, .inr ⟨g, 0, rfl, h3.lt, fun j hj => ⟨[.bool rs[j].neg, .string rs[j].num, .string rs[j].den], rfl, ?_, rRat_new _ _ _ (hs _ (List.getElem_mem hj))⟩⟩⟩
  intro c hc
  obtain ⟨f0, f1, f2, _⟩ := hF.facts (k := j) hj
  have e : rs.getD j gZ = rs[j] := by simp [List.getD, hj]
  rw [e] at f0 f1 f2
  have : c = 0 ∨ c = 1 ∨ c = 2 := by omega
  rcases this with rfl | rfl | rfl
  · simpa using f0
  · simpa using f1
  · simpa using f2
end

end Go.Proofs.YtgmedcncbpdimaaDoor
