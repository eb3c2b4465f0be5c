/- insolvencyref17.Kept: walked. -/
import Derived.Test.YtgmedcncbpdimaaDoorGu5M
import Derived.Test.YtgmedcncbpdimaaDoorGu4M
import Derived.Test.YtgmedcncbpdimaaDoorLast0M
set_option linter.unusedVariables false
set_option linter.unusedSimpArgs false
section
/- insolvencyref17.Kept: walked. -/
namespace Go.Proofs.YtgmedcncbpdimaaDoor
open Go.RowKit
attribute [local go_sem ↓] Go.wp_at_zero Go.wp_at_succ

set_option maxRecDepth 100000 in
set_option maxHeartbeats 4000000 in
theorem rKept_any (W : GRat) (v : Value) (l : List GRat) (m : Nat) (w : World) (hm : m ≤ 1000) (hm0 : 0 < m) (hW : sB m W) (hl : l.length ≤ 1000) (hs : ∀ r ∈ l, sB m r) (hv : RL w v l) :
    Calls Tryd.prog 20 #[vRat W, v] w fun e w' => e = .returned (vRat (enc (gK (qOf W) (qL l)))) ∧ Below w.heap.size w w' := by
  obtain ⟨a, cap, rfl, h1, h2⟩ := hv.open
  have HSB := hid hs
  have HQ := hid (qL_qB hs hm0)
  have HWQ := hid (hW.qB hm0)
  have HPW := hid (fun w => amount_any W m w hW (by omega))
  unfold vRat at HPW
  have HX0 := hid (KSt.new w W)
  clear hs hW hv
  obtain ⟨c, hc⟩ : ∃ c, c = enc (gK (qOf W) (qL l)) := ⟨_, rfl⟩
  rw [← hc]
  have HC := hid hc
  clear hc
  unfold vRat
  go_enter Tryd.func20, Tryd.ntmps20
  go_wp2
  go_loopw [6] (fun i wr => ∃ k : Nat, k ≤ l.length ∧ i = .int .i64 k ∧ KSt w wr W (enc (gS (qL l) k))) (fun i _ => l.length - (intOf i).toNat)
  case atStart =>
    refine ⟨0, Nat.zero_le _, rfl, ?_⟩
    rw [show gS (qL l) 0 = 0 from rfl, ← gZ_enc]
    exact HX0.out
  case round =>
    obtain ⟨k, hk, rfl, hst⟩ := hrel
    by_cases hlt : k < l.length
    · rcases h2 with rfl | ⟨b, off, rfl, hbb, h3⟩
      · simp at hlt
      obtain ⟨g0, g1, g2, g3⟩ := h3 k hlt
      rw [← hst.2.2.2.cell (p := ⟨b, off + k * 3, none⟩) hbb] at g0
      rw [← hst.2.2.2.cell (p := ⟨b, off + k * 3 + 1, none⟩) hbb] at g1
      rw [← hst.2.2.2.cell (p := ⟨b, off + k * 3 + 2, none⟩) hbb] at g2
      have hmk1 : m * (k + 1) ≤ 1000 * 1001 := Nat.mul_le_mul hm (by omega)
      have qx : qB m (qOf l[k]) := (HSB.out _ (List.getElem_mem hlt)).qB hm0
      have q1 : qB 2000000 (gS (qL l) k) := (gS_qB HQ.out hm0 k).mono (by omega)
      have eS : gS (qL l) (k + 1) = gS (qL l) k + qpos (qOf l[k]) := by rw [gS_step, qL_get _ _ hlt]
      have HPX := hid (fun w => amount_any l[k] m w (HSB.out _ (List.getElem_mem hlt)) (by omega))
      have HAD := hid (fun w => rPlus_any (gS (qL l) k) (qpos (qOf l[k])) 2000000 m w q1 (qpos_qB qx) (by decide) (by omega))
      rw [← eS] at HAD
      obtain ⟨x, hx⟩ : ∃ x, x = l[k] := ⟨_, rfl⟩
      rw [← hx] at g0 g1 g2 HPX HAD
      generalize e7 : enc (gS (qL l) (k + 1)) = sm' at *
      have E7 := hid e7
      clear e7
      generalize enc (gS (qL l) k) = sm at *
      generalize enc (qpos (qOf x)) = px at *
      have HST := hid hst
      obtain ⟨s0, s1, s2, s3, s4⟩ := hst.2.2.1.facts
      unfold vRat at HPX HAD
      clear hx g3 h3 hmk1 qx q1 eS hst
      go_wp2_with fail
      go_region_with (first
        | (go_at_call 40; refine Calls.mono (HPX.out _) ?_; rintro e w1 ⟨rfl, hb1⟩; have st1 := KSt.next (KSt.drew HST.out) hb1; clear s0 s1 s2 s3 s4; obtain ⟨s0, s1, s2, s3, s4⟩ := st1.2.2.1.facts)
        | (go_at_call 43; refine Calls.mono (HAD.out _) ?_; rintro e w2 ⟨rfl, hb2⟩; have st2 := st1.next hb2; clear s0 s1 s2 s3 s4; obtain ⟨s0, s1, s2, s3, s4⟩ := st2.2.2.1.facts))
      all_goals (have st3 := hid (st2.putS sm'); clear s0 s1 s2 s3 s4; go_wp2; go_roundw)
      all_goals first
        | exact ⟨k + 1, hlt, by go_num, by rw [E7.out]; exact st3.out⟩
        | (simp [intOf]; omega)
    · have hk' : k = l.length := by omega
      have hmk1 : m * (l.length + 1) ≤ 1000 * 1001 := Nat.mul_le_mul hm (by omega)
      have q1 : qB 2000000 (gS (qL l) l.length) := (gS_qB HQ.out hm0 l.length).mono (by omega)
      have HMI := hid (fun w => rLesser_any (qpos (qOf W)) (gS (qL l) l.length) m 2000000 w (qpos_qB HWQ.out) q1 (by omega) (by decide))
      rw [show qmin (qpos (qOf W)) (gS (qL l) l.length) = gK (qOf W) (qL l) by unfold gK; rw [qL_len]] at HMI
      rw [hk'] at hst
      rw [← HC.out] at HMI
      generalize enc (gS (qL l) l.length) = sm at *
      generalize enc (qpos (qOf W)) = pW at *
      unfold vRat at HMI
      have HST := hid hst
      obtain ⟨s0, s1, s2, s3, s4⟩ := hst.2.2.1.facts
      obtain ⟨z0, z1, z2, z3, z4⟩ := hst.1.facts
      clear hst q1 hmk1 h2
      go_wp2_with fail
      go_region_with (first
        | (go_at_call 40; refine Calls.mono (HPW.out _) ?_; rintro e w1 ⟨rfl, hb1⟩; have st1 := KSt.next (KSt.drew HST.out) hb1; clear s0 s1 s2 s3 s4 z0 z1 z2 z3 z4; obtain ⟨s0, s1, s2, s3, s4⟩ := st1.2.2.1.facts)
        | (go_at_call 45; refine Calls.mono (HMI.out _) ?_; rintro e w2 ⟨rfl, hb2⟩; have st2 := st1.next hb2; clear s0 s1 s2 s3 s4; obtain ⟨s0, s1, s2, s3, s4⟩ := st2.2.1.facts))
      all_goals (go_wp2; refine ret_blk3 (st2.ret c).1 (fun W' c0 c1 c2 => by simp [results, Tryd.results20, go_sem, c0, c1, c2]) rfl ⟨rfl, (st2.ret c).2⟩)

end Go.Proofs.YtgmedcncbpdimaaDoor
end
section
/- insolvencyref1.SameRats of two lists that are equal: true. -/
namespace Go.Proofs.YtgmedcncbpdimaaDoor
open Go.RowKit
attribute [local go_sem ↓] Go.wp_at_zero Go.wp_at_succ

set_option maxRecDepth 100000 in
set_option maxHeartbeats 2000000 in
theorem SameRats_yes (v u : Value) (qs : List Rat) (w : World) (h : RL w v (qs.map enc)) (h' : RL w u (qs.map enc)) :
    Calls Tryd.prog 17 #[v, u] w fun e w' => e = .returned (.bool true) ∧ Below w.heap.size w w' := by
  obtain ⟨da, dc, rfl, d1, d2⟩ := RQ.open h
  obtain ⟨ra, rc, rfl, r1, r2⟩ := RQ.open h'
  obtain ⟨n, hn⟩ : ∃ n, n = qs.length := ⟨_, rfl⟩
  have HN := hid hn
  have HD := hid d2
  have HR := hid r2
  rw [← hn] at d1 r1 ⊢
  clear hn d2 r2 h h'
  go_enter Tryd.func17, Tryd.ntmps17
  go_wp2
  go_loopw [5] (fun i wr => ∃ k : Nat, k ≤ n ∧ i = .int .i64 k ∧ Below w.heap.size w wr) (fun i _ => n - (intOf i).toNat)
  case atStart => exact ⟨0, Nat.zero_le _, rfl, Below.refl _ _⟩
  case round =>
    obtain ⟨i, hi, rfl, hbo⟩ := hrel
    by_cases hlt : i < n
    · have hne1 : qs ≠ [] := by intro h; have := HN.out; rw [h] at this; simp at this; omega
      obtain ⟨db, doff, rfl, hdb, hdc⟩ := HD.out.resolve_left hne1
      obtain ⟨rb, roff, rfl, hrb, hrc⟩ := HR.out.resolve_left hne1
      rw [← HN.out] at hdc hrc
      have K1 := C3.below (hdc i hlt) hbo hdb
      have K2 := C3.below (hrc i hlt) hbo hrb
      generalize enc (qs.getD i 0) = y at *
      obtain ⟨p0, p1, p2⟩ := K1
      obtain ⟨q0, q1, q2⟩ := K2
      have hb3 : (0 : Int) ≤ (i : Int) := by omega
      have hb4 : (i : Int) < (n : Int) := by omega
      have HB := hid hbo
      clear hdc hrc hne1 hbo
      go_wp2_with fail
      go_quiet (fail)
      go_wp2
      go_roundw
      case rel => exact ⟨i + 1, hlt, by go_num, (by first | exact Below.drewN HB.out | exact HB.out | exact ⟨HB.out.1, HB.out.2, HB.out.3, HB.out.4, HB.out.5⟩)⟩
      case measure => simp [intOf]; omega
    · go_wp2
      go_ret
      exact ⟨rfl, hbo⟩

end Go.Proofs.YtgmedcncbpdimaaDoor
end
