/- insolvencylaw18.awake: walked. -/
import Derived.Test.YtgmedcncbpdimaaDoorGu4M
import Derived.Deep.RegionHeld3
set_option linter.unusedVariables false
set_option linter.unusedSimpArgs false
/- insolvencylaw18.awake: walked. -/
namespace Go.Proofs.YtgmedcncbpdimaaDoor
open Go.RowKit
attribute [local go_sem ↓] Go.wp_at_zero Go.wp_at_succ

theorem aw18_gR : gR ((100 : Int) : Rat) [((70 : Int) : Rat), ((50 : Int) : Rat), ((20 : Int) : Rat)] = [((0 : Int) : Rat), ((20 : Int) : Rat), ((20 : Int) : Rat)] := by decide +kernel

theorem RL.get {w : World} {v : Value} {l : List GRat} (h : RL w v l) {k : Nat} (hk : k < l.length) :
    ∃ b off cap, v = .slice (some ⟨b, off, none⟩) l.length cap ∧ b < w.heap.size ∧ l.length ≤ 9223372036854775807 ∧ ∀ j (h : j < l.length), w.cell? ⟨b, off + j * 3, none⟩ = some (.bool l[j].neg) ∧ w.cell? ⟨b, off + j * 3 + 1, none⟩ = some (.string l[j].num) ∧ w.cell? ⟨b, off + j * 3 + 2, none⟩ = some (.string l[j].den) ∧ sB maxLen l[j] := by
  obtain ⟨a, cap, rfl, h1, h2⟩ := h.open
  rcases h2 with h2 | ⟨b, off, rfl, hb, h3⟩
  · rw [h2] at hk; simp at hk
  · exact ⟨b, off, cap, rfl, hb, h1, h3⟩

/-- What the example's refunds read. -/
def AwS (w5 : World) (b off : Nat) (q0 q20 : GRat) (w' : World) : Prop := Below w5.heap.size w5 w' ∧ w'.cell? ⟨b, off, none⟩ = some (.bool q0.neg) ∧ w'.cell? ⟨b, off + 1, none⟩ = some (.string q0.num) ∧ w'.cell? ⟨b, off + 2, none⟩ = some (.string q0.den) ∧ w'.cell? ⟨b, off + 3, none⟩ = some (.bool q20.neg) ∧ w'.cell? ⟨b, off + 3 + 1, none⟩ = some (.string q20.num) ∧ w'.cell? ⟨b, off + 3 + 2, none⟩ = some (.string q20.den) ∧ w'.cell? ⟨b, off + 6, none⟩ = some (.bool q20.neg) ∧ w'.cell? ⟨b, off + 6 + 1, none⟩ = some (.string q20.num) ∧ w'.cell? ⟨b, off + 6 + 2, none⟩ = some (.string q20.den)
theorem AwS.drew {w5 W : World} {b off : Nat} {q0 q20 : GRat} (h : AwS w5 b off q0 q20 W) : AwS w5 b off q0 q20 W.drew := ⟨Below.drew h.1, h.2⟩
theorem AwS.next {w5 W V : World} {b off : Nat} {q0 q20 : GRat} (h : AwS w5 b off q0 q20 W) (hb : b < w5.heap.size) (hV : Below W.heap.size W V) : AwS w5 b off q0 q20 V := by
  have hc : ∀ o, V.cell? ⟨b, o, none⟩ = W.cell? ⟨b, o, none⟩ := fun o => hV.cell (p := ⟨b, o, none⟩) (Nat.lt_of_lt_of_le hb h.1.size)
  obtain ⟨h0, h⟩ := h
  refine ⟨h0.step hV, ?_⟩
  simp only [hc]
  exact h

set_option maxRecDepth 100000 in
set_option maxHeartbeats 2000000 in
theorem awake18_any (w : World) : Calls Tryd.prog 14 #[] w fun e w' => e = .returned (.bool true) ∧ Below w.heap.size w w' := by
  have I1 := hid (fun w => qInt_any 100 w (by decide) (by decide))
  have I2 := hid (fun w => qInt_any 70 w (by decide) (by decide))
  have I3 := hid (fun w => qInt_any 50 w (by decide) (by decide))
  have I4 := hid (fun w => qInt_any 20 w (by decide) (by decide))
  have I5 := hid (fun w => qInt_any 0 w (by decide) (by decide))
  have b100 : sB 1 (enc ((100 : Int) : Rat)) := sB_enc ⟨by decide, by decide⟩
  have b70 : sB 1 (enc ((70 : Int) : Rat)) := sB_enc ⟨by decide, by decide⟩
  have b50 : sB 1 (enc ((50 : Int) : Rat)) := sB_enc ⟨by decide, by decide⟩
  have b20 : sB 1 (enc ((20 : Int) : Rat)) := sB_enc ⟨by decide, by decide⟩
  have R := hid (fun (v : Value) (w : World) (h : RL w v [enc ((70 : Int) : Rat), enc ((50 : Int) : Rat), enc ((20 : Int) : Rat)]) => Refunds_any (enc ((100 : Int) : Rat)) v _ 1 w (by decide) (by decide) b100 (by decide) (by intro r hr; simp at hr; rcases hr with rfl | rfl | rfl; exact b70; exact b50; exact b20) h)
  have e1 : (gR (qOf (enc ((100 : Int) : Rat))) (qL [enc ((70 : Int) : Rat), enc ((50 : Int) : Rat), enc ((20 : Int) : Rat)])).map enc = [enc ((0 : Int) : Rat), enc ((20 : Int) : Rat), enc ((20 : Int) : Rat)] := by
    simp only [qL, List.map_cons, List.map_nil, qOf_enc]
    rw [aw18_gR]
    rfl
  rw [e1] at R
  have hsz := hid (show sB maxLen (enc ((70 : Int) : Rat)) ∧ sB maxLen (enc ((50 : Int) : Rat)) ∧ sB maxLen (enc ((20 : Int) : Rat)) from ⟨sB_max b70 (by decide), sB_max b50 (by decide), sB_max b20 (by decide)⟩)
  generalize enc ((100 : Int) : Rat) = q100 at *
  generalize enc ((70 : Int) : Rat) = q70 at *
  generalize enc ((50 : Int) : Rat) = q50 at *
  generalize enc ((20 : Int) : Rat) = q20 at *
  generalize enc ((0 : Int) : Rat) = q0 at *
  clear e1 b100 b70 b50 b20
  unfold vRat at I1 I2 I3 I4 I5 R
  go_enter Tryd.func14, Tryd.ntmps14
  go_wp2_with fail
  refine Calls.mono (I1.out _) ?_
  rintro e w1 ⟨rfl, hb1⟩
  go_wp2_with fail
  refine Calls.mono (I2.out _) ?_
  rintro e w2 ⟨rfl, hb2⟩
  go_wp2_with fail
  refine Calls.mono (I3.out _) ?_
  rintro e w3 ⟨rfl, hb3⟩
  go_wp2_with fail
  refine Calls.mono (I4.out _) ?_
  rintro e w4 ⟨rfl, hb4⟩
  have hb := hid (hb1.step (hb2.step (hb3.step hb4)))
  clear hb1 hb2 hb3 hb4
  have hRL : RL (w4.alloc (.cells #[.bool q70.neg, .string q70.num, .string q70.den, .bool q50.neg, .string q50.num, .string q50.den, .bool q20.neg, .string q20.num, .string q20.den] 25)) (.slice (some ⟨w4.heap.size, 0, none⟩) 3 3) [q70, q50, q20] := by
    refine OwnR.reads (n := 3) ⟨rfl, ?_⟩ (by decide) ?_
    · unfold Own
      rw [heap_alloc_new]
      congr 2
      apply Array.ext'
      simp [List.range_succ, cellF, List.getD]
    · intro r hr
      simp at hr
      rcases hr with rfl | rfl | rfl
      · exact hsz.out.1
      · exact hsz.out.2.1
      · exact hsz.out.2.2
  have R1 := hid (R.out _ _ hRL)
  clear hRL
  go_wp2_with fail
  refine Calls.mono R1.out ?_
  rintro e w5 ⟨u, rfl, hu, hb5⟩
  obtain ⟨b, off, cap, rfl, hbb, -, h3⟩ := hu.get (k := 0) (by simp)
  have f0 := h3 0 (by simp)
  have f1 := h3 1 (by simp)
  have f2 := h3 2 (by simp)
  simp only [List.getElem_cons_zero, List.getElem_cons_succ, Nat.zero_mul, Nat.one_mul, Nat.add_zero, Nat.reduceMul] at f0 f1 f2
  have hbw := hid (Below.step (hb.out.alloc hb.out.size _) hb5)
  obtain ⟨a0, a1, a2, -⟩ := f0
  obtain ⟨a3, a4, a5, -⟩ := f1
  obtain ⟨a6, a7, a8, -⟩ := f2
  clear hu h3 hb5 hb R1 R
  have hS : AwS w5 b off q0 q20 w5 := ⟨Below.refl _ _, a0, a1, a2, a3, a4, a5, a6, a7, a8⟩
  have HS := hid (fun (W V : World) (h : AwS w5 b off q0 q20 W) (hb : Below W.heap.size W V) => h.next hbb hb)
  go_wp2_with fail
  go_region_held3 (fun w' => w'.cell? ⟨b, off, none⟩ = some (.bool q0.neg) ∧ w'.cell? ⟨b, off + 1, none⟩ = some (.string q0.num) ∧ w'.cell? ⟨b, off + 2, none⟩ = some (.string q0.den) ∧ w'.cell? ⟨b, off + 3, none⟩ = some (.bool q20.neg) ∧ w'.cell? ⟨b, off + 3 + 1, none⟩ = some (.string q20.num) ∧ w'.cell? ⟨b, off + 3 + 2, none⟩ = some (.string q20.den) ∧ w'.cell? ⟨b, off + 6, none⟩ = some (.bool q20.neg) ∧ w'.cell? ⟨b, off + 6 + 1, none⟩ = some (.string q20.num) ∧ w'.cell? ⟨b, off + 6 + 2, none⟩ = some (.string q20.den)) (go_keep)
    (first
      | (go_at_call_of 39 (Value.int .i64 0); refine Calls.mono (I5.out _) ?_; rintro e wn ⟨rfl, hbn⟩; (first | replace hS := HS.out _ _ hS hbn | replace hS := HS.out _ _ hS.drew hbn); clear a0 a1 a2 a3 a4 a5 a6 a7 a8; obtain ⟨-, a0, a1, a2, a3, a4, a5, a6, a7, a8⟩ := id hS)
      | (go_at_call_of 39 (Value.int .i64 20); refine Calls.mono (I4.out _) ?_; rintro e wn ⟨rfl, hbn⟩; (first | replace hS := HS.out _ _ hS hbn | replace hS := HS.out _ _ hS.drew hbn); clear a0 a1 a2 a3 a4 a5 a6 a7 a8; obtain ⟨-, a0, a1, a2, a3, a4, a5, a6, a7, a8⟩ := id hS))
  go_wp2
  go_ret
  exact ⟨rfl, Below.step hbw.out hS.1⟩

end Go.Proofs.YtgmedcncbpdimaaDoor
