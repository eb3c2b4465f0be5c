/- Lists of rationals; FewRats, SameRats: walked. -/
import Derived.Test.YtgmedcncbpdimaaDoorGu1M
import Derived.Test.YtgmedcncbpdimaaDoorNat4M
set_option linter.unusedVariables false
set_option linter.unusedSimpArgs false
section
/- Lists of rationals; FewRats, SameRats: walked. -/
namespace Go.Proofs.YtgmedcncbpdimaaDoor
open Go.RowKit

/-- A slice of rationals. -/
def RL (w : World) (v : Value) (l : List GRat) : Prop := rSlice 3 rRat w (LT w.heap.size) [v] l
theorem RL.below {w w' : World} {v : Value} {l : List GRat} (h : RL w v l) (hb : Below w.heap.size w w') : RL w' v l := (stays_rSlice stays_rRat).below h hb hb.size
theorem RL.drew {w : World} {v : Value} {l : List GRat} (h : RL w v l) : RL w.drew v l := h
theorem RL.open {w : World} {v : Value} {l : List GRat} (h : RL w v l) :
    ∃ a cap, v = .slice a l.length cap ∧ l.length ≤ 9223372036854775807 ∧ (l = [] ∨ ∃ b off, a = some ⟨b, off, none⟩ ∧ b < w.heap.size ∧ ∀ j (h : j < l.length), w.cell? ⟨b, off + j * 3, none⟩ = some (.bool l[j].neg) ∧ w.cell? ⟨b, off + j * 3 + 1, none⟩ = some (.string l[j].num) ∧ w.cell? ⟨b, off + j * 3 + 2, none⟩ = some (.string l[j].den) ∧ sB maxLen l[j]) := by
  obtain ⟨a, cap, hv, h1, h2, h3, h4⟩ := h
  simp only [List.cons.injEq, and_true] at hv
  refine ⟨a, cap, hv, len_le h1 h2, ?_⟩
  rcases h4 with h4 | ⟨b, off, h5, h6, h7⟩
  · exact .inl h4
  · refine .inr ⟨b, off, h5, h6, fun j hj => ?_⟩
    obtain ⟨cs, k1, k2, rfl, k3, k4⟩ := h7 j hj
    exact ⟨k2 0 (by decide), k2 1 (by decide), k2 2 (by decide), k3, k4⟩

set_option maxRecDepth 100000 in
theorem FewRats_any (v : Value) (l : List GRat) (n : Nat) (w : World) (hn : n ≤ 1000) (hv : RL w v l) :
    Calls Tryd.prog 16 #[v, .int .i64 n] w fun e w' => e = .returned (.bool (decide (l.length ≤ n) && l.all gFew)) ∧ Below w.heap.size w w' := by
  obtain ⟨a, cap, rfl, h1, h2⟩ := hv.open
  by_cases hl : l.length ≤ n
  · have hR := hid (show (decide (l.length ≤ n) && l.all gFew) = l.all gFew by simp [hl])
    rw [hR.out]
    have HF := hid (fun (r : GRat) (w : World) (h : sB maxLen r) => Few_any r w h.1 h.2)
    unfold vRat at HF
    have hdl : decide (n < l.length) = false := by simp; omega
    clear hR
    go_enter Tryd.func16, Tryd.ntmps16
    go_wp2
    go_loopw [6, 13] (fun _ i wr => ∃ k : Nat, k ≤ l.length ∧ i = .int .i64 k ∧ Below w.heap.size w wr ∧ Hid ((l.take k).all gFew = true)) (fun _ i _ => l.length - (intOf i).toNat)
    case atStart => exact ⟨0, Nat.zero_le _, rfl, Below.refl _ _, rfl⟩
    case round =>
      obtain ⟨k, hk, rfl, hbw, HA⟩ := hrel
      by_cases hlt : k < l.length
      · rcases h2 with rfl | ⟨b, off, rfl, hb, h3⟩
        · simp at hlt
        obtain ⟨g0, g1, g2, g3⟩ := h3 k hlt
        rw [← hbw.cell (p := ⟨b, off + k * 3, none⟩) hb] at g0
        rw [← hbw.cell (p := ⟨b, off + k * 3 + 1, none⟩) hb] at g1
        rw [← hbw.cell (p := ⟨b, off + k * 3 + 2, none⟩) hb] at g2
        have HT := hid (show (l.take (k + 1)).all gFew = ((l.take k).all gFew && gFew l[k]) by rw [List.take_succ_eq_append_getElem hlt, List.all_append]; simp)
        have HAL := hid (show gFew l[k] = false → l.all gFew = false by
          intro h; rw [List.all_eq_false]; exact ⟨l[k], List.getElem_mem hlt, by simp [h]⟩)
        obtain ⟨x, hx⟩ : ∃ x, x = l[k] := ⟨_, rfl⟩
        rw [← hx] at g0 g1 g2 g3 HT HAL
        have HC := hid (fun w => HF.out x w g3)
        clear hx g3 h3
        by_cases hf : gFew x = true
        · rw [hf] at HC
          have HT2 := hid (show (l.take (k + 1)).all gFew = true by rw [HT.out, HA.out, hf]; rfl)
          clear hf HT HAL
          go_wp2_with fail
          refine Calls.mono (HC.out _) ?_
          rintro e w1 ⟨rfl, hb1⟩
          go_wp2
          go_roundw
          case rel => exact ⟨k + 1, hlt, by go_num, Below.step (hbw.alloc hbw.size _) hb1, HT2.out⟩
          case measure => simp [intOf]; omega
        · have hf' : gFew x = false := by simpa using hf
          rw [hf'] at HC
          have HT2 := hid (HAL.out hf')
          clear hf hf' HT HAL
          go_wp2_with fail
          refine Calls.mono (HC.out _) ?_
          rintro e w1 ⟨rfl, hb1⟩
          go_wp2
          go_ret
          exact ⟨ret_bool HT2.out.symm, Below.step (hbw.alloc hbw.size _) hb1⟩
      · have HT2 := hid (show l.all gFew = true by have := HA.out; rwa [List.take_of_length_le (by omega)] at this)
        go_wp2
        go_ret
        exact ⟨ret_bool HT2.out.symm, hbw⟩
  · have hR := hid (show (decide (l.length ≤ n) && l.all gFew) = false by simp [hl])
    rw [hR.out]
    go_enter Tryd.func16, Tryd.ntmps16
    go_wp2
    go_ret
    exact ⟨rfl, Below.refl _ _⟩

end Go.Proofs.YtgmedcncbpdimaaDoor
end
section
/- Amounts: walked; rows of rationals of the call's own. -/
namespace Go.Proofs.YtgmedcncbpdimaaDoor
open Go.RowKit

theorem Tryd.infoRat : (Tryd.prog.info? 25).map (fun i => (i.zero, i.size, i.bytes)) = some (some (.agg #[.bool false, .string { data := #[] }, .string { data := #[] }]), 3, 40) := by kernel_rfl

theorem rRat_new (w : World) (S : Nat → Prop) (r : GRat) (h : sB maxLen r) : rRat w S [.bool r.neg, .string r.num, .string r.den] r := ⟨rfl, h.1, h.2⟩
theorem sB_max {m : Nat} {r : GRat} (h : sB m r) (hm : m ≤ 100000000000) : sB maxLen r := h.mono (by unfold maxLen; omega)

set_option maxRecDepth 100000 in
theorem Amounts_any (v : Value) (xs : List Nat) (n : Nat) (w : World) (hn : n ≤ 1000) (hv : rSlice 1 rU16 w (LT w.heap.size) [v] xs) :
    Calls Tryd.prog 11 #[v, .int .i64 n] w fun e w' => ∃ u, e = .returned u ∧ RL w' u ((xs.take n).map fun x => enc (qAmt x)) ∧ Below w.heap.size w w' := by
  obtain ⟨a, cap, hv', h1, h2, h3, h4⟩ := hv
  simp only [List.cons.injEq, and_true] at hv'
  subst hv'
  have hl := len_le h1 h2
  go_enter Tryd.func11, Tryd.ntmps11
  go_wp2
  go_loopw [5, 6] (fun p i wr => ∃ k : Nat, k ≤ xs.length ∧ k ≤ n ∧ i = .int .i64 k ∧ Below w.heap.size w wr ∧ rGrow 25 3 rRat w.heap.size wr p ((xs.take k).map fun x => enc (qAmt x))) (fun _ i _ => xs.length - (intOf i).toNat)
  case atStart => exact ⟨0, Nat.zero_le _, Nat.zero_le _, rfl, Below.refl _ _, rGrow.nil _ _ _ _ _⟩
  case round =>
    obtain ⟨k, hk, hkn, rfl, hbw, hg⟩ := hrel
    by_cases hlt : k < xs.length
    · by_cases hlt2 : k < n
      · rcases h4 with rfl | ⟨b, off, rfl, h4⟩
        · simp at hlt
        obtain ⟨g0, g1⟩ := h4.u16 hlt
        rw [← hbw.cell (p := ⟨b, off + k, none⟩) h4.1] at g0
        have HT := hid (show (xs.take k).map (fun x => enc (qAmt x)) ++ [enc (qAmt xs[k])] = (xs.take (k + 1)).map fun x => enc (qAmt x) by rw [List.take_succ_eq_append_getElem hlt, List.map_append]; rfl)
        obtain ⟨x, hx⟩ : ∃ x, x = xs[k] := ⟨_, rfl⟩
        rw [← hx] at g0 g1 HT
        have HL := hid (show ((xs.take k).map fun x => enc (qAmt x)).length ≤ 1000 by simp; omega)
        generalize (xs.take k).map (fun x => enc (qAmt x)) = ds at *
        have HA := hid (fun w => Amount_any x w g1)
        have HS := hid (sB_max (sB_enc (amt_qB x)) (by decide))
        generalize enc (qAmt x) = q at *
        unfold vRat at HA
        clear hx
        go_wp2_with fail
        refine Calls.mono (HA.out _) ?_
        rintro e w1 ⟨rfl, hb1⟩
        have hbw1 := hbw.trans (hb1.mono hbw.size)
        have hg1 := hg.kept stays_rRat hb1
        have hg2 := hg1.kept stays_rRat ((Below.refl _ _).alloc (Nat.le_refl _) (.cells #[.bool q.neg, .string q.num, .string q.den] 25))
        have hsz := hbw1.size
        clear hg hg1
        go_wp2_with (at_builtin; refine wpList_push _ rfl _ _ 27 rfl stays_rRat w.heap.size 25 3 40 _ Tryd.underlying27 Tryd.infoRat rfl (by omega) _ ds rfl hg2 ?hbase ?hbytes ?h63 w1.heap.size 1 [.bool q.neg, .string q.num, .string q.den] rfl rfl ?hb rfl q (rRat_new _ _ _ HS.out) ?_)
        case hbase => simp; omega
        case hbytes => have := HL.out; omega
        case h63 => have := HL.out; omega
        case hb => exact ⟨(0, 0), heap_alloc_new _ _⟩
        intro v' w' hg' hgr hbel'
        rw [HT.out] at hg'
        have hbel2 : Below w.heap.size w w' := (hbw1.alloc hsz _).trans hbel'
        clear hg2 hbel' hgr
        go_wp2
        go_roundw
        case rel => exact ⟨k + 1, by omega, by omega, by go_num, hbel2, hg'⟩
        case measure => simp [intOf]; omega
      · have hR := hid (hg.slice stays_rRat)
        have hkn' : k = n := by omega
        have e : (xs.take k).map (fun x => enc (qAmt x)) = (xs.take n).map fun x => enc (qAmt x) := by rw [hkn']
        rw [e] at hR
        clear hkn' e
        go_wp2
        go_ret
        exact ⟨_, rfl, hR.out, hbw⟩
    · have hR := hid (hg.slice stays_rRat)
      have e : (xs.take k).map (fun x => enc (qAmt x)) = (xs.take n).map fun x => enc (qAmt x) := by rw [List.take_of_length_le (by omega), List.take_of_length_le (by omega)]
      rw [e] at hR
      clear e
      go_wp2
      go_ret
      exact ⟨_, rfl, hR.out, hbw⟩

/-! ### Rows of rationals of the call's own -/

def cellF (rs : List GRat) (j : Nat) : Value := if j % 3 = 0 then .bool (rs.getD (j / 3) gZ).neg else if j % 3 = 1 then .string (rs.getD (j / 3) gZ).num else .string (rs.getD (j / 3) gZ).den
def OwnR (w : World) (g n : Nat) (rs : List GRat) : Prop := rs.length = n ∧ Own w g 25 (n * 3) (cellF rs)
theorem cellF0 (rs : List GRat) (k : Nat) : cellF rs (k * 3) = .bool (rs.getD k gZ).neg := by
  unfold cellF; rw [if_pos (by omega), show k * 3 / 3 = k by omega]
theorem cellF1 (rs : List GRat) (k : Nat) : cellF rs (k * 3 + 1) = .string (rs.getD k gZ).num := by
  unfold cellF; rw [if_neg (by omega), if_pos (by omega), show (k * 3 + 1) / 3 = k by omega]
theorem cellF2 (rs : List GRat) (k : Nat) : cellF rs (k * 3 + 2) = .string (rs.getD k gZ).den := by
  unfold cellF; rw [if_neg (by omega), if_neg (by omega), show (k * 3 + 2) / 3 = k by omega]
theorem OwnR.facts {w : World} {g n : Nat} {rs : List GRat} (h : OwnR w g n rs) {k : Nat} (hk : k < n) :
    w.cell? ⟨g, k * 3, none⟩ = some (.bool (rs.getD k gZ).neg) ∧ w.cell? ⟨g, k * 3 + 1, none⟩ = some (.string (rs.getD k gZ).num) ∧ w.cell? ⟨g, k * 3 + 2, none⟩ = some (.string (rs.getD k gZ).den) ∧ (∀ j, w.frozen? ⟨g, j, none⟩ = false) ∧ g < w.heap.size := by
  have h1 := h.2.cell (j := k * 3) (by omega)
  have h2 := h.2.cell (j := k * 3 + 1) (by omega)
  have h3 := h.2.cell (j := k * 3 + 2) (by omega)
  rw [cellF0] at h1
  rw [cellF1] at h2
  rw [cellF2] at h3
  exact ⟨h1, h2, h3, fun j => h.2.frozen j, h.2.lt⟩
theorem OwnR.put {w : World} {g n : Nat} {rs : List GRat} (h : OwnR w g n rs) {k : Nat} (hk : k < n) (r : GRat) :
    OwnR (((w.setCell ⟨g, k * 3, none⟩ (.bool r.neg)).setCell ⟨g, k * 3 + 1, none⟩ (.string r.num)).setCell ⟨g, k * 3 + 2, none⟩ (.string r.den)) g n (rs.set k r) := by
  refine ⟨by rw [List.length_set]; exact h.1, (((h.2.set _ _).set _ _).set _ _).congr fun j hj => ?_⟩
  have hk' : k < rs.length := by rw [h.1]; exact hk
  unfold upd
  by_cases e2 : j = k * 3 + 2
  · rw [if_pos e2, e2, cellF2]; simp [List.getD, hk']
  · rw [if_neg e2]
    by_cases e1 : j = k * 3 + 1
    · rw [if_pos e1, e1, cellF1]; simp [List.getD, hk']
    · rw [if_neg e1]
      by_cases e0 : j = k * 3
      · rw [if_pos e0, e0, cellF0]; simp [List.getD, hk']
      · rw [if_neg e0]
        have hne : ¬ k = j / 3 := by omega
        unfold cellF
        simp [List.getD, List.getElem?_set, hne]
theorem OwnR.below {w w' : World} {g n : Nat} {rs : List GRat} (h : OwnR w g n rs) (hb : Below w.heap.size w w') : OwnR w' g n rs := ⟨h.1, h.2.below hb h.2.lt⟩
theorem OwnR.alloc {w : World} {g n : Nat} {rs : List GRat} (h : OwnR w g n rs) (o : Obj) : OwnR (w.alloc o) g n rs := ⟨h.1, h.2.alloc o⟩
theorem OwnR.drew {w : World} {g n : Nat} {rs : List GRat} (h : OwnR w g n rs) : OwnR w.drew g n rs := h
theorem OwnR.other {w : World} {g g' n : Nat} {rs : List GRat} (h : OwnR w g n rs) (hne : g' ≠ g) (r : GRat) : OwnR (put3 w g' r) g n rs := ⟨h.1, ((h.2.other hne _ _).other hne _ _).other hne _ _⟩
theorem Bx.other' {w : World} {b b' p q s : Nat} {x y z : Value} {r : GRat} (h : Bx w b r) (hne : b' ≠ b) : Bx (((w.setCell ⟨b', p, none⟩ x).setCell ⟨b', q, none⟩ y).setCell ⟨b', s, none⟩ z) b r := ((Blk3.other h hne _ _).other hne _ _).other hne _ _
theorem OwnR.new (w : World) (n : Nat) : OwnR (w.alloc (.cells (madeCells #[.bool false, .string { data := #[] }, .string { data := #[] }] (n * 3)) 25)) w.heap.size n (List.replicate n gZ) := by
  refine ⟨by simp, ?_⟩
  unfold Own
  rw [heap_alloc_new]
  congr 2
  apply Array.ext
  · simp [madeCells]
  · intro i h1 h2
    have hi : i < n * 3 := by simpa using h2
    have e : (List.replicate n gZ).getD (i / 3) gZ = gZ := by simp [List.getD, List.getElem?_replicate]; split <;> rfl
    simp only [madeCells, Array.getElem_map, Array.getElem_range, cellF, e]
    have : i % 3 = 0 ∨ i % 3 = 1 ∨ i % 3 = 2 := by omega
    rcases this with h | h | h <;> simp [h] <;> rfl
theorem OwnR.reads {w : World} {g n : Nat} {rs : List GRat} (h : OwnR w g n rs) (hn : n ≤ maxLen) (hs : ∀ r ∈ rs, sB maxLen r) : RL w (.slice (some ⟨g, 0, none⟩) n n) rs := by
  refine ⟨some ⟨g, 0, none⟩, n, by rw [h.1], by rw [h.1]; exact Nat.le_refl _, hn, by simp, .inr ⟨g, 0, rfl, h.2.lt, fun j hj => ⟨[.bool rs[j].neg, .string rs[j].num, .string rs[j].den], rfl, ?_, rRat_new _ _ _ (hs _ (List.getElem_mem hj))⟩⟩⟩
  intro c hc
  obtain ⟨f0, f1, f2, _⟩ := h.facts (k := j) (by rw [← h.1]; exact hj)
  have e : rs.getD j gZ = rs[j] := by simp [List.getD, hj]
  rw [e] at f0 f1 f2
  have : c = 0 ∨ c = 1 ∨ c = 2 := by omega
  rcases this with rfl | rfl | rfl
  · simpa using f0
  · simpa using f1
  · simpa using f2

end Go.Proofs.YtgmedcncbpdimaaDoor
end
