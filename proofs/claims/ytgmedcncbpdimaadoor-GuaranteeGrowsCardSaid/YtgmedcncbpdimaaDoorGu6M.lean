/- rational.Sum: walked. -/
import Derived.Test.YtgmedcncbpdimaaDoorGu4M
import Derived.Test.YtgmedcncbpdimaaDoorAdd1M
set_option linter.unusedVariables false
set_option linter.unusedSimpArgs false
set_option linter.unusedSectionVars false
/- rational.Sum: walked. -/
namespace Go.Proofs.YtgmedcncbpdimaaDoor
open Go.RowKit
attribute [local go_sem ↓] Go.wp_at_zero Go.wp_at_succ

/-- The state of a loop that adds up: a result, a sum. -/
def SSt (w wr : World) (s : GRat) : Prop := Bx wr w.heap.size gZ ∧ Bx wr (w.heap.size + 1) s ∧ Below w.heap.size w wr
section
variable {w wr : World} {s : GRat}
theorem SSt.next {w' : World} (h : SSt w wr s) (hb : Below wr.heap.size wr w') : SSt w w' s := ⟨h.1.below hb, h.2.1.below hb, h.2.2.step hb⟩
theorem SSt.drew (h : SSt w wr s) : SSt w wr.drew s := ⟨h.1.drew, h.2.1.drew, Below.drew h.2.2⟩
theorem SSt.alloc (h : SSt w wr s) (b : Obj) : SSt w (wr.alloc b) s := h.next ((Below.refl _ _).alloc (Nat.le_refl _) _)
theorem SSt.putS (h : SSt w wr s) (a : GRat) : SSt w (put3 wr (w.heap.size + 1) a) a := ⟨h.1.other (by omega) a, h.2.1.put a, below_put h.2.2 (by omega) a⟩
theorem SSt.ret (h : SSt w wr s) (q : GRat) : Bx (put3 wr w.heap.size q) w.heap.size q ∧ Below w.heap.size w (put3 wr w.heap.size q) := ⟨h.1.put q, below_put h.2.2 (by omega) q⟩
theorem SSt.new (w : World) : SSt w ((w.alloc (.cells #[.bool false, .string { data := #[] }, .string { data := #[] }] 25)).alloc (.cells #[.bool false, .string { data := #[] }, .string { data := #[] }] 25)) gZ := Bx2.new w gZ gZ
end
theorem gSum_qB {l : List Rat} {m : Nat} (h : ∀ k, qB m (l.getD k 0)) (hm : 0 < m) : ∀ k, qB (m * (k + 1) + k) (gSum l k) := by
  intro k
  induction k with
  | zero => exact qB_zero.mono (by omega)
  | succ k ih =>
    show qB _ (gSum l k + l.getD k 0)
    refine (ih.add (h k)).mono ?_
    have : m * (k + 1 + 1) = m * (k + 1) + m := Nat.mul_succ _ _
    omega

set_option maxRecDepth 100000 in
set_option maxHeartbeats 4000000 in
theorem Sum_any (v : Value) (l : List GRat) (m : Nat) (w : World) (hm : m ≤ 1000) (hm0 : 0 < m) (hl : l.length ≤ 1000) (hs : ∀ r ∈ l, sB m r) (hv : RL w v l) :
    Calls Tryd.prog 27 #[v] w fun e w' => e = .returned (vRat (enc (gSum (qL l) l.length))) ∧ Below w.heap.size w w' := by
  obtain ⟨a, cap, rfl, h1, h2⟩ := hv.open
  have HSB := hid hs
  have HQ := hid (qL_qB hs hm0)
  have HX0 := hid (SSt.new w)
  clear hs hv
  obtain ⟨c, hc⟩ : ∃ c, c = enc (gSum (qL l) l.length) := ⟨_, rfl⟩
  rw [← hc]
  have HC := hid hc
  clear hc
  unfold vRat
  go_enter Tryd.func27, Tryd.ntmps27
  go_wp2
  go_loopw [5, 9] (fun _ i wr => ∃ k : Nat, k ≤ l.length ∧ i = .int .i64 k ∧ SSt w wr (enc (gSum (qL l) k))) (fun _ i _ => l.length - (intOf i).toNat)
  case atStart =>
    refine ⟨0, Nat.zero_le _, rfl, ?_⟩
    rw [show gSum (qL l) 0 = 0 from rfl, ← gZ_enc]
    exact HX0.out
  case round =>
    obtain ⟨k, hk, rfl, hst⟩ := hrel
    by_cases hlt : k < l.length
    · rcases h2 with rfl | ⟨b, off, rfl, hbb, h3⟩
      · simp at hlt
      obtain ⟨g0, g1, g2, g3⟩ := h3 k hlt
      rw [← hst.2.2.cell (p := ⟨b, off + k * 3, none⟩) hbb] at g0
      rw [← hst.2.2.cell (p := ⟨b, off + k * 3 + 1, none⟩) hbb] at g1
      rw [← hst.2.2.cell (p := ⟨b, off + k * 3 + 2, none⟩) hbb] at g2
      have hmk1 : m * (k + 1) ≤ 1000 * 1001 := Nat.mul_le_mul hm (by omega)
      have qx : qB m (qOf l[k]) := (HSB.out _ (List.getElem_mem hlt)).qB hm0
      have q1 : qB 2000000 (gSum (qL l) k) := (gSum_qB HQ.out hm0 k).mono (by omega)
      have eS : gSum (qL l) (k + 1) = gSum (qL l) k + qOf l[k] := by show gSum (qL l) k + (qL l).getD k 0 = _; rw [qL_get _ _ hlt]
      have sx := HSB.out _ (List.getElem_mem hlt)
      have HPX := hid (fun w => qclean_any l[k] w (by have := sx.1; omega) (by have := sx.2; omega))
      have HAD := hid (fun w => qadd_any (gSum (qL l) k) (qOf l[k]) 2000000 m w q1 qx (by decide) (by omega))
      rw [← eS] at HAD
      obtain ⟨x, hx⟩ : ∃ x, x = l[k] := ⟨_, rfl⟩
      rw [← hx] at g0 g1 g2 HPX HAD
      generalize e7 : enc (gSum (qL l) (k + 1)) = sm' at *
      have E7 := hid e7
      clear e7
      generalize enc (gSum (qL l) k) = sm at *
      generalize enc (qOf x) = px at *
      have HST := hid hst
      obtain ⟨s0, s1, s2, s3, s4⟩ := hst.2.1.facts
      unfold vRat at HPX HAD
      clear hx g3 h3 hmk1 qx q1 eS hst sx
      go_wp2_with fail
      go_region_with (first
        | (go_at_call 38; refine Calls.mono (HPX.out _) ?_; rintro e w1 ⟨rfl, hb1⟩; have st1 := SSt.next (SSt.drew (SSt.alloc HST.out _)) hb1; clear s0 s1 s2 s3 s4; obtain ⟨s0, s1, s2, s3, s4⟩ := st1.2.1.facts)
        | (go_at_call 46; refine Calls.mono (HAD.out _) ?_; rintro e w2 ⟨rfl, hb2⟩; have st2 := st1.next hb2; clear s0 s1 s2 s3 s4; obtain ⟨s0, s1, s2, s3, s4⟩ := st2.2.1.facts))
      all_goals (have st3 := hid (st2.putS sm'); clear s0 s1 s2 s3 s4; go_wp2; go_roundw)
      all_goals first
        | exact ⟨k + 1, hlt, by go_num, by rw [E7.out]; exact st3.out⟩
        | (simp [intOf]; omega)
    · have hk' : k = l.length := by omega
      rw [hk', ← HC.out] at hst
      have HST := hid hst
      obtain ⟨s0, s1, s2, s3, s4⟩ := hst.2.1.facts
      obtain ⟨z0, z1, z2, z3, z4⟩ := hst.1.facts
      clear hst h2
      go_wp2
      refine ret_blk3 (HST.out.ret c).1 (fun W' c0 c1 c2 => by simp [results, Tryd.results27, go_sem, c0, c1, c2]) rfl ⟨rfl, (HST.out.ret c).2⟩

end Go.Proofs.YtgmedcncbpdimaaDoor
