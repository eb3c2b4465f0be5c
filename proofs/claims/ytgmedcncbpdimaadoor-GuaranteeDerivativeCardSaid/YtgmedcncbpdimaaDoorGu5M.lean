/- guarantee.Kept: walked. -/
import Derived.Test.YtgmedcncbpdimaaDoorGu4M
import Derived.Test.YtgmedcncbpdimaaDoorCmp1M
set_option linter.unusedVariables false
set_option linter.unusedSimpArgs false
set_option linter.unusedSectionVars false
/- guarantee.Kept: walked. -/
namespace Go.Proofs.YtgmedcncbpdimaaDoor
open Go.RowKit
attribute [local go_sem ↓] Go.wp_at_zero Go.wp_at_succ

/-- The state of a loop that adds up: an argument, a result, a sum. -/
def KSt (w wr : World) (W s : GRat) : Prop :=
  Bx wr w.heap.size W ∧ Bx wr (w.heap.size + 1) gZ ∧ Bx wr (w.heap.size + 1 + 1) s ∧ Below w.heap.size w wr
section
variable {w wr : World} {W s : GRat}
theorem KSt.next {w' : World} (h : KSt w wr W s) (hb : Below wr.heap.size wr w') : KSt w w' W s := ⟨h.1.below hb, h.2.1.below hb, h.2.2.1.below hb, h.2.2.2.step hb⟩
theorem KSt.drew (h : KSt w wr W s) : KSt w wr.drew W s := ⟨h.1.drew, h.2.1.drew, h.2.2.1.drew, Below.drew h.2.2.2⟩
theorem KSt.alloc (h : KSt w wr W s) (b : Obj) : KSt w (wr.alloc b) W s := h.next ((Below.refl _ _).alloc (Nat.le_refl _) _)
theorem KSt.putS (h : KSt w wr W s) (a : GRat) : KSt w (put3 wr (w.heap.size + 1 + 1) a) W a :=
  ⟨h.1.other (by omega) a, h.2.1.other (by omega) a, h.2.2.1.put a, below_put h.2.2.2 (by omega) a⟩
theorem KSt.ret (h : KSt w wr W s) (q : GRat) : Bx (put3 wr (w.heap.size + 1) q) (w.heap.size + 1) q ∧ Below w.heap.size w (put3 wr (w.heap.size + 1) q) := ⟨h.2.1.put q, below_put h.2.2.2 (by omega) q⟩
theorem KSt.new (w : World) (W : GRat) : KSt w (((w.alloc (.cells #[.bool W.neg, .string W.num, .string W.den] 25)).alloc (.cells #[.bool false, .string { data := #[] }, .string { data := #[] }] 25)).alloc (.cells #[.bool false, .string { data := #[] }, .string { data := #[] }] 25)) W gZ := by
  have h := (Bx2.new w W gZ)
  have e : ((w.alloc (.cells #[.bool W.neg, .string W.num, .string W.den] 25)).alloc (.cells #[.bool gZ.neg, .string gZ.num, .string gZ.den] 25)).heap.size = w.heap.size + 1 + 1 := by simp
  have b := Bx.new ((w.alloc (.cells #[.bool W.neg, .string W.num, .string W.den] 25)).alloc (.cells #[.bool gZ.neg, .string gZ.num, .string gZ.den] 25)) gZ
  rw [e] at b
  exact ⟨h.1.alloc _, h.2.1.alloc _, b, h.2.2.alloc (by simp; omega) _⟩
end

set_option maxRecDepth 100000 in
set_option maxHeartbeats 4000000 in
theorem Kept_any (W : GRat) (v : Value) (l : List GRat) (m : Nat) (w : World) (hm : m ≤ 1000) (hm0 : 0 < m) (hW : sB m W) (hl : l.length ≤ 1000) (hs : ∀ r ∈ l, sB m r) (hv : RL w v l) :
    Calls Tryd.prog 19 #[vRat W, v] w fun e w' => e = .returned (vRat (enc (gK (qOf W) (qL l)))) ∧ Below w.heap.size w w' := by
  obtain ⟨a, cap, rfl, h1, h2⟩ := hv.open
  have HSB := hid hs
  have HQ := hid (qL_qB hs hm0)
  have HWQ := hid (hW.qB hm0)
  have HPW := hid (fun w => positive_any W m w hW (by omega) hm0)
  unfold vRat at HPW
  have HX0 := hid (KSt.new w W)
  clear hs hW hv
  obtain ⟨c, hc⟩ : ∃ c, c = enc (gK (qOf W) (qL l)) := ⟨_, rfl⟩
  rw [← hc]
  have HC := hid hc
  clear hc
  unfold vRat
  go_enter Tryd.func19, Tryd.ntmps19
  go_wp2
  go_loopw [7, 11] (fun _ i wr => ∃ k : Nat, k ≤ l.length ∧ i = .int .i64 k ∧ KSt w wr W (enc (gS (qL l) k))) (fun _ i _ => l.length - (intOf i).toNat)
  case atStart =>
    refine ⟨0, Nat.zero_le _, rfl, ?_⟩
    rw [show gS (qL l) 0 = 0 from rfl, ← gZ_enc]
    exact HX0.out
  case round =>
    obtain ⟨k, hk, rfl, hst⟩ := hrel
    by_cases hlt : k < l.length
    · rcases h2 with rfl | ⟨b, off, rfl, hbb, h3⟩
      · simp at hlt
      obtain ⟨g0, g1, g2, g3⟩ := h3 k hlt
      rw [← hst.2.2.2.cell (p := ⟨b, off + k * 3, none⟩) hbb] at g0
      rw [← hst.2.2.2.cell (p := ⟨b, off + k * 3 + 1, none⟩) hbb] at g1
      rw [← hst.2.2.2.cell (p := ⟨b, off + k * 3 + 2, none⟩) hbb] at g2
      have hmk1 : m * (k + 1) ≤ 1000 * 1001 := Nat.mul_le_mul hm (by omega)
      have qx : qB m (qOf l[k]) := (HSB.out _ (List.getElem_mem hlt)).qB hm0
      have q1 : qB 2000000 (gS (qL l) k) := (gS_qB HQ.out hm0 k).mono (by omega)
      have eS : gS (qL l) (k + 1) = gS (qL l) k + qpos (qOf l[k]) := by rw [gS_step, qL_get _ _ hlt]
      have HPX := hid (fun w => positive_any l[k] m w (HSB.out _ (List.getElem_mem hlt)) (by omega) hm0)
      have HAD := hid (fun w => qAdd_any (enc (gS (qL l) k)) (enc (qpos (qOf l[k]))) 2000000 m w (sB_enc q1) (sB_enc (qpos_qB qx)) (by decide) (by omega) (by decide) hm0)
      rw [qOf_enc, qOf_enc, ← eS] at HAD
      obtain ⟨x, hx⟩ : ∃ x, x = l[k] := ⟨_, rfl⟩
      rw [← hx] at g0 g1 g2 HPX HAD
      generalize e7 : enc (gS (qL l) (k + 1)) = sm' at *
      have E7 := hid e7
      clear e7
      generalize enc (gS (qL l) k) = sm at *
      generalize enc (qpos (qOf x)) = px at *
      have HST := hid hst
      obtain ⟨s0, s1, s2, s3, s4⟩ := hst.2.2.1.facts
      unfold vRat at HPX HAD
      clear hx g3 h3 hmk1 qx q1 eS hst
      go_wp2_with fail
      go_region_with (first
        | (go_at_call 35; refine Calls.mono (HPX.out _) ?_; rintro e w1 ⟨rfl, hb1⟩; have st1 := KSt.next (KSt.drew (KSt.alloc HST.out _)) hb1; clear s0 s1 s2 s3 s4; obtain ⟨s0, s1, s2, s3, s4⟩ := st1.2.2.1.facts)
        | (go_at_call 21; refine Calls.mono (HAD.out _) ?_; rintro e w2 ⟨rfl, hb2⟩; have st2 := st1.next hb2; clear s0 s1 s2 s3 s4; obtain ⟨s0, s1, s2, s3, s4⟩ := st2.2.2.1.facts))
      all_goals (have st3 := hid (st2.putS sm'); clear s0 s1 s2 s3 s4; go_wp2; go_roundw)
      all_goals first
        | exact ⟨k + 1, hlt, by go_num, by rw [E7.out]; exact st3.out⟩
        | (simp [intOf]; omega)
    · have hk' : k = l.length := by omega
      have hmk1 : m * (l.length + 1) ≤ 1000 * 1001 := Nat.mul_le_mul hm (by omega)
      have q1 : qB 2000000 (gS (qL l) l.length) := (gS_qB HQ.out hm0 l.length).mono (by omega)
      have HMI := hid (fun w => qMin_any (enc (qpos (qOf W))) (enc (gS (qL l) l.length)) m 2000000 w (sB_enc (qpos_qB HWQ.out)) (sB_enc q1) (by omega) (by decide) hm0 (by decide))
      rw [qOf_enc, qOf_enc, show qmin (qpos (qOf W)) (gS (qL l) l.length) = gK (qOf W) (qL l) by unfold gK; rw [qL_len]] at HMI
      rw [hk'] at hst
      rw [← HC.out] at HMI
      generalize enc (gS (qL l) l.length) = sm at *
      generalize enc (qpos (qOf W)) = pW at *
      unfold vRat at HMI
      have HST := hid hst
      obtain ⟨s0, s1, s2, s3, s4⟩ := hst.2.2.1.facts
      obtain ⟨z0, z1, z2, z3, z4⟩ := hst.1.facts
      clear hst q1 hmk1 h2
      go_wp2_with fail
      go_region_with (first
        | (go_at_call 35; refine Calls.mono (HPW.out _) ?_; rintro e w1 ⟨rfl, hb1⟩; have st1 := KSt.next (KSt.drew HST.out) hb1; clear s0 s1 s2 s3 s4 z0 z1 z2 z3 z4; obtain ⟨s0, s1, s2, s3, s4⟩ := st1.2.2.1.facts)
        | (go_at_call 44; refine Calls.mono (HMI.out _) ?_; rintro e w2 ⟨rfl, hb2⟩; have st2 := st1.next hb2; clear s0 s1 s2 s3 s4; obtain ⟨s0, s1, s2, s3, s4⟩ := st2.2.1.facts))
      all_goals (go_wp2; refine ret_blk3 (st2.ret c).1 (fun W' c0 c1 c2 => by simp [results, Tryd.results19, go_sem, c0, c1, c2]) rfl ⟨rfl, (st2.ret c).2⟩)

end Go.Proofs.YtgmedcncbpdimaaDoor
