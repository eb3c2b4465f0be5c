/- natural: step: walked. -/
import Derived.Test.YtgmedcncbpdimaaDoorRef7M
import Derived.Test.YtgmedcncbpdimaaDoorKnuthM
import Derived.Deep.CutBlock
import Derived.Deep.DeepCutAuto
set_option linter.unusedVariables false
set_option linter.unusedSimpArgs false
/- natural: step: walked. -/
namespace Go.Proofs.YtgmedcncbpdimaaDoor
open Go.RowKit

theorem grow_set {w w' : World} {g : Nat} (h : w.grownBy w' (some g)) (p : Nat) (v : Value) : w.grownBy (w'.setCell ⟨g, p, none⟩ v) (some g) :=
  ⟨h.os, h.tape, h.output, by simpa using h.size, fun k hk hne => by rw [Below.heap_setCell _ _ _ _ (fun e => hne (by rw [e]))]; exact h.block k hk hne⟩
theorem grow_drewN {w w' : World} {r : Option Nat} (h : w.grownBy w' r) (n : Nat) : w.grownBy (w'.drewN n) r := ⟨h.os, h.tape, h.output, h.size, h.block⟩
theorem grow_cell {w w' : World} {g b : Nat} (h : w.grownBy w' (some g)) (hb : b < w.heap.size) (hne : b ≠ g) (o : Nat) : w'.cell? ⟨b, o, none⟩ = w.cell? ⟨b, o, none⟩ :=
  World.cell?_of_block (h.block b hb (fun e => hne (Option.some.inj e)))

theorem OwnL.drewN {w : World} {g n : Nat} {o : List Nat} (h : OwnL w g n o) (k : Nat) : OwnL (w.drewN k) g n o := h

set_option maxRecDepth 100000 in
set_option maxHeartbeats 2000000 in
theorem step_any (S : Nat → Prop) (v : Value) (ds o : List Nat) (g off N cap n : Nat) (w : World) (hS : ∀ b, S b → b < w.heap.size ∧ b ≠ g) (hN : N ≤ 1000000000000) (hn2 : 2 ≤ n) (hdl : ds.length = n) (hoff : off + n < N) (hcap : n + 1 ≤ cap)
    (hv : rSlice 1 rU32 w S [v] ds) (hown : OwnL w g N o) (htop : 2147483648 ≤ ds.getD (n - 1) 0) (hU : limbsVal ((o.drop off).take (n + 1)) < 4294967296 * limbsVal ds) :
    Calls Tryd.prog 112 #[.slice (some ⟨g, off, none⟩) (n + 1) cap, v] w fun e w' => ∃ o', e = .returned (.int .u32 ((limbsVal ((o.drop off).take (n + 1)) / limbsVal ds : Nat) : Int)) ∧ OwnL w' g N o' ∧
      (∀ j, j < off ∨ off + n < j → o'.getD j 0 = o.getD j 0) ∧ limbsVal ((o'.drop off).take (n + 1)) = limbsVal ((o.drop off).take (n + 1)) % limbsVal ds ∧ w.grownBy w' (some g) := by
  have hdlt := hid (u32s_lt hv)
  obtain ⟨da, dc, rfl, x1, x2, x3, x4⟩ := u32s_open hv
  rcases x4 with rfl | ⟨db, doff, rfl, x4⟩
  · simp at hdl; omega
  rw [hdl]
  have n1 : (n : Int) - 1 = ((n - 1 : Nat) : Int) := by omega
  have n2 : (n : Int) - 2 = ((n - 2 : Nat) : Int) := by omega
  have hol := hown.1
  have hw0 : off + n < o.length := by omega
  have hw1 : off + (n - 1) < o.length := by omega
  have hw2 : off + (n - 2) < o.length := by omega
  have c0 := hown.cell hw0
  have c1 := hown.cell hw1
  have c2 := hown.cell hw2
  have hd1 : n - 1 < ds.length := by omega
  have hd2 : n - 2 < ds.length := by omega
  have k1 := (x4.u32 hd1).1
  have k2 := (x4.u32 hd2).1
  obtain ⟨un, hun⟩ : ∃ x, x = o[off + n] := ⟨_, rfl⟩
  obtain ⟨u1, hu1⟩ : ∃ x, x = o[off + (n - 1)] := ⟨_, rfl⟩
  obtain ⟨u2, hu2⟩ : ∃ x, x = o[off + (n - 2)] := ⟨_, rfl⟩
  obtain ⟨dt, hdt⟩ : ∃ x, x = ds[n - 1] := ⟨_, rfl⟩
  obtain ⟨d2, hd2'⟩ : ∃ x, x = ds[n - 2] := ⟨_, rfl⟩
  have l0 : un < 4294967296 := by rw [hun]; exact hown.2.1 _ (List.getElem_mem hw0)
  have l1 : u1 < 4294967296 := by rw [hu1]; exact hown.2.1 _ (List.getElem_mem hw1)
  have l2 : u2 < 4294967296 := by rw [hu2]; exact hown.2.1 _ (List.getElem_mem hw2)
  have l3 : dt < 4294967296 := by rw [hdt]; exact hdlt.out _ (List.getElem_mem hd1)
  have l4 : d2 < 4294967296 := by rw [hd2']; exact hdlt.out _ (List.getElem_mem hd2)
  have htop' : 2147483648 ≤ dt := by simpa [List.getD, hd1, ← hdt] using htop
  rw [← hun] at c0
  rw [← hu1] at c1
  rw [← hu2] at c2
  rw [← hdt] at k1
  rw [← hd2'] at k2
  have o1 := or32_add un u1 l0 l1
  obtain ⟨G0, hG0⟩ : ∃ G : Nat, G = (un * 4294967296 + u1) / dt := ⟨_, rfl⟩
  obtain ⟨R0, hR0⟩ : ∃ R : Nat, R = (un * 4294967296 + u1) % dt := ⟨_, rfl⟩
  have hGR : G0 * dt + R0 = un * 4294967296 + u1 := by rw [hG0, hR0, Nat.mul_comm]; exact Nat.div_add_mod _ _
  have hR0l : R0 < dt := by rw [hR0]; exact Nat.mod_lt _ (by omega)
  have eT : ((un * 4294967296 + u1 : Nat) : Int) = (un : Int) * 4294967296 + (u1 : Int) := by omega
  have q1 : ((un : Int) * 4294967296 + (u1 : Int)) / (dt : Int) = (G0 : Int) := by rw [hG0, Int.natCast_ediv, eT]
  have q2 : ((un : Int) * 4294967296 + (u1 : Int)) % (dt : Int) = (R0 : Int) := by rw [hR0, Int.natCast_emod, eT]
  clear eT
  have Hun := hid hun
  have Hu1 := hid hu1
  have Hu2 := hid hu2
  have Hdt := hid hdt
  have Hd2 := hid hd2'
  have HGR := hid hGR
  have HU := hid hU
  have Hol := hid hol
  have Hdl := hid hdl
  obtain ⟨D, hD⟩ : ∃ D, D = limbsVal ds := ⟨_, rfl⟩
  obtain ⟨U, hUU⟩ : ∃ U, U = limbsVal ((o.drop off).take (n + 1)) := ⟨_, rfl⟩
  have hM : ∃ M D0 U0, 0 < M ∧ D0 < M ∧ U0 < M ∧ D = (dt * 4294967296 + d2) * M + D0 ∧ U = ((un * 4294967296 + u1) * 4294967296 + u2) * M + U0 := by
    obtain ⟨D0, h1, h2⟩ := split_top2 hdlt.out (n - 2) (by omega)
    obtain ⟨U0, h3, h4⟩ := split_top3 (xs := (o.drop off).take (n + 1)) (fun x hx => hown.2.1 x (List.mem_of_mem_drop (List.mem_of_mem_take hx))) (n - 2) (by simp; omega)
    refine ⟨4294967296 ^ (n - 2), D0, U0, ww_pos _, h1, h3, ?_, ?_⟩
    · rw [hD, h2, show n - 2 + 1 = n - 1 by omega]
      simp [List.getD, hd1, hd2, ← hdt, ← hd2']
    · rw [hUU, h4, show n - 2 + 1 = n - 1 by omega, show n - 2 + 2 = n by omega]
      have g0 : ((o.drop off).take (n + 1)).getD n 0 = un := by simp [List.getD, List.getElem?_take, hw0, ← hun]
      have g1 : ((o.drop off).take (n + 1)).getD (n - 1) 0 = u1 := by simp [List.getD, List.getElem?_take, hw1, ← hu1, show n - 1 < n + 1 by omega]
      have g2 : ((o.drop off).take (n + 1)).getD (n - 2) 0 = u2 := by simp [List.getD, List.getElem?_take, hw2, ← hu2, show n - 2 < n + 1 by omega]
      rw [g0, g1, g2]
  rw [← hD, ← hUU] at hU HU
  rw [← hD, ← hUU]
  obtain ⟨M, D0, U0, hM0, hD0, hU0, hDe, hUe⟩ := hM
  have hun_le : un ≤ dt := knuth_un hDe hUe hD0 l4 hU
  have hG0l : G0 ≤ 4294967297 := knuth_g0 htop' hun_le l1 hGR
  have hGU : U < (G0 + 1) * D := knuth_first hDe hUe hU0 l2 hGR hR0l
  have hDpos : 0 < D := by
    rw [hDe]
    have : 1 * M ≤ (dt * 4294967296 + d2) * M := Nat.mul_le_mul_right _ (by omega)
    omega
  have HdecL := hid (fun G R h hg => knuth_dec (G := G) (R := R) hDe hUe hU0 h hg)
  have HexitL := hid (fun G R h hg hG => knuth_exit (G := G) (R := R) hDe hUe hD0 hU0 (by omega) h hg hG)
  have HD := hid hD
  have HUU := hid hUU
  have HGU := hid hGU
  have HU' := hid hU
  clear hun hu1 hu2 hdt hd2' hGR hG0 hR0 hU hol hdl htop hD hUU hDe hUe hGU hM0 hD0 hU0 HU
  go_enter Tryd.func112, Tryd.ntmps112
  go_wp2
  go_quiet (fail)
  go_wp2
  go_quiet (fail)
  go_upto_block 0 with fail
  go_cut [7, 8] (fun s7 _ wx => ∃ G : Nat, s7 = .int .u64 G ∧ G ≤ 4294967296 ∧ Hid (U < (G + 1) * D) ∧ Hid (G * D ≤ U + D) ∧ OwnL wx g N o ∧ w.grownBy wx (some g))
  case first =>
    go_wp2_with fail
    go_loopw [7, 8] (fun s7 s8 wr => ∃ G R : Nat, s7 = .int .u64 G ∧ s8 = .int .u64 R ∧ Hid (G * dt + R = un * 4294967296 + u1) ∧ R < 4294967296 ∧ G ≤ 4294967297 ∧ Hid (U < (G + 1) * D) ∧ OwnL wr g N o ∧ w.grownBy wr (some g)) (fun s7 _ _ => (intOf s7).toNat)
    case atStart => exact ⟨G0, R0, by rw [q1], by rw [q2], HGR, by omega, hG0l, HGU, hown, grow_drewN (grow_drewN (World.grownBy.refl _ _) _) _⟩
    case round =>
      clear c0 c1 c2 k1 k2 hown
      obtain ⟨G, R, rfl, rfl, HG, hR, hGl, HGu, hown, hgr⟩ := hrel
      have k1 := (x4.u32 hd1).1
      have k2 := (x4.u32 hd2).1
      rw [← grow_cell hgr (hS _ x4.1).1 (hS _ x4.1).2, ← Hdt.out] at k1
      rw [← grow_cell hgr (hS _ x4.1).1 (hS _ x4.1).2, ← Hd2.out] at k2
      have c2 := hown.cell hw2
      rw [← Hu2.out] at c2
      by_cases hA : 4294967296 ≤ G
      · have dA : decide ((4294967296 : Int) ≤ (G : Int)) = true := by simp; omega
        have HG0 := hid (show 0 < G by omega)
        have HLT := hid (show U < G * D from Nat.lt_of_lt_of_le HU'.out (Nat.mul_le_mul_right _ hA))
        have e1 : IntKind.u64.wrap ((G : Int) - 1) = ((G - 1 : Nat) : Int) := by
          have : (G : Int) - 1 = ((G - 1 : Nat) : Int) := by omega
          rw [this]; exact IntWalk.u64_in _ (by omega)
        have e2 : IntKind.u64.wrap ((R : Int) + (dt : Int)) = (R : Int) + (dt : Int) := IntWalk.u64_in _ (by omega)
        have hq : Hid (U < (G - 1 + 1) * D) := by show U < (G - 1 + 1) * D; rw [show G - 1 + 1 = G by omega]; exact HLT.out
        have hgr2 : Hid ((G - 1) * dt + (R + dt) = un * 4294967296 + u1) := by
          show (G - 1) * dt + (R + dt) = un * 4294967296 + u1
          rw [← HG.out]
          have : G * dt = (G - 1) * dt + dt := by conv => lhs; rw [show G = G - 1 + 1 by omega, Nat.add_mul, Nat.one_mul]
          omega
        have hG1 : G - 1 ≤ 4294967296 := by omega
        by_cases hB : 4294967296 ≤ R + dt
        · have dB : decide ((4294967296 : Int) ≤ (R : Int) + (dt : Int)) = true := by simp; omega
          have hex : Hid ((G - 1) * D ≤ U + D) := HexitL.out (G - 1) (R + dt) hgr2.out (by
            have h1 : (G - 1) * d2 ≤ 4294967296 * 4294967296 := Nat.mul_le_mul hG1 (by omega)
            have h2 : 4294967296 * 4294967296 ≤ (R + dt) * 4294967296 := Nat.mul_le_mul_right _ hB
            omega) hG1
          have HB := hid hB
          clear hA hGl hB
          go_wp2
          go_quiet (fail)
          go_upto_region 7 with fail
          go_wp2
          go_meet
          case rel => exact ⟨G - 1, rfl, hG1, hq, hex, hown.drewN _, grow_drewN hgr _⟩
        · have dB : decide ((4294967296 : Int) ≤ (R : Int) + (dt : Int)) = false := by simp; omega
          have HB := hid hB
          have hRd : R + dt < 4294967296 := by omega
          have HRd := hid hRd
          clear hA hGl hB hRd
          go_wp2
          go_quiet (fail)
          go_upto_region 7 with fail
          go_wp2
          go_roundw
          case rel => exact ⟨G - 1, R + dt, rfl, by go_num, hgr2, HRd.out, by have := hG1; omega, hq, hown.drewN _, grow_drewN hgr _⟩
          case measure => have := HG0.out; simp [intOf]; omega
      · have dA : decide ((4294967296 : Int) ≤ (G : Int)) = false := by simp; omega
        have hGl' : G < 4294967296 := by omega
        have hmb := mul_bd hGl' l4
        have e3 : IntKind.u64.wrap ((G : Int) * (d2 : Int)) = (G : Int) * (d2 : Int) := IntWalk.u64_in _ (by rw [← Int.natCast_mul]; omega)
        have o2 := or32_add R u2 hR l2
        by_cases hC : R * 4294967296 + u2 < G * d2
        · have dC : decide ((R : Int) * 4294967296 + (u2 : Int) < (G : Int) * (d2 : Int)) = true := by rw [← Int.natCast_mul]; simp; omega
          have HG0 := hid (show 0 < G by rcases Nat.eq_zero_or_pos G with h | h; · subst h; omega
                                         · exact h)
          have HLT := hid (HdecL.out G R HG.out hC)
          have HG00 := HG0.out
          have e1 : IntKind.u64.wrap ((G : Int) - 1) = ((G - 1 : Nat) : Int) := by
            have : (G : Int) - 1 = ((G - 1 : Nat) : Int) := by omega
            rw [this]; exact IntWalk.u64_in _ (by omega)
          have e2 : IntKind.u64.wrap ((R : Int) + (dt : Int)) = (R : Int) + (dt : Int) := IntWalk.u64_in _ (by omega)
          have hq : Hid (U < (G - 1 + 1) * D) := by show U < (G - 1 + 1) * D; rw [show G - 1 + 1 = G by omega]; exact HLT.out
          have hgr2 : Hid ((G - 1) * dt + (R + dt) = un * 4294967296 + u1) := by
            show (G - 1) * dt + (R + dt) = un * 4294967296 + u1
            rw [← HG.out]
            have : G * dt = (G - 1) * dt + dt := by conv => lhs; rw [show G = G - 1 + 1 by omega, Nat.add_mul, Nat.one_mul]
            omega
          have hG1 : G - 1 ≤ 4294967296 := by omega
          by_cases hB : 4294967296 ≤ R + dt
          · have dB : decide ((4294967296 : Int) ≤ (R : Int) + (dt : Int)) = true := by simp; omega
            have hex : Hid ((G - 1) * D ≤ U + D) := HexitL.out (G - 1) (R + dt) hgr2.out (by
              have h1 : (G - 1) * d2 ≤ 4294967296 * 4294967296 := Nat.mul_le_mul hG1 (by omega)
              have h2 : 4294967296 * 4294967296 ≤ (R + dt) * 4294967296 := Nat.mul_le_mul_right _ hB
              omega) hG1
            have HB := hid hB
            clear hA hGl hB hmb hC hGl'
            go_wp2
            go_quiet (fail)
            go_upto_region 7 with fail
            go_wp2
            go_meet
            case rel => exact ⟨G - 1, rfl, hG1, hq, hex, hown.drewN _, grow_drewN hgr _⟩
          · have dB : decide ((4294967296 : Int) ≤ (R : Int) + (dt : Int)) = false := by simp; omega
            have HB := hid hB
            have hRd : R + dt < 4294967296 := by omega
            have HRd := hid hRd
            clear hA hGl hB hRd hmb hC hGl'
            go_wp2
            go_quiet (fail)
            go_upto_region 7 with fail
            go_wp2
            go_roundw
            case rel => exact ⟨G - 1, R + dt, rfl, by go_num, hgr2, HRd.out, by have := hG1; omega, hq, hown.drewN _, grow_drewN hgr _⟩
            case measure => have := HG0.out; simp [intOf]; omega
        · have dC : decide ((R : Int) * 4294967296 + (u2 : Int) < (G : Int) * (d2 : Int)) = false := by rw [← Int.natCast_mul]; simp; omega
          have hex : Hid (G * D ≤ U + D) := HexitL.out G R HG.out (by omega) (by omega)
          have hG1 : G ≤ 4294967296 := by omega
          have HG1 := hid hG1
          clear hA hGl hC hmb hGl' hG1
          go_wp2
          go_quiet (fail)
          go_wp2
          go_meet
          case rel => exact ⟨G, rfl, HG1.out, HGu, hex, hown.drewN _, grow_drewN hgr _⟩
  case rest =>
    obtain ⟨G, rfl, hG, HGu, HGe, hownc, hgrc⟩ := hcut
    clear c0 c1 c2 k1 k2 q1 q2 o1
    have H2 := hid (knuth_two hDpos HGu.out HGe.out)
    go_wp2
    go_loopw [9, 10, 11, 12, 13, 84] (fun c b _ _ _ i wr => ∃ (k c' b' : Nat) (o' : List Nat), k ≤ n ∧ i = .int .i64 k ∧ c = .int .u64 c' ∧ c' < 4294967296 ∧ b = .int .u32 b' ∧ b' ≤ 1 ∧ OwnL wr g N o' ∧ w.grownBy wr (some g) ∧ Hid (∀ j, (j < off ∨ off + k ≤ j) → o'.getD j 0 = o.getD j 0) ∧
      Hid (limbsVal ((o'.drop off).take k) + G * limbsVal (ds.take k) = limbsVal ((o.drop off).take k) + 4294967296 ^ k * (b' + c'))) (fun _ _ _ _ _ i _ => n - (intOf i).toNat)
    case atStart => exact ⟨0, 0, 0, o, by omega, rfl, rfl, by omega, rfl, by omega, hownc, hgrc, fun j _ => rfl, by simp [Hid, limbsVal]⟩
    case round =>
      obtain ⟨k, c', b', o', hk, rfl, rfl, hc', rfl, hb', hown', hgr, HO, HE⟩ := hrel
      have hol' := hown'.1
      by_cases hlt : k < n
      · as_aux_lemma =>
          have hlt' : k < ds.length := by have := Hdl.out; omega
          obtain ⟨f0, f1⟩ := x4.u32 hlt'
          rw [← grow_cell hgr (hS _ x4.1).1 (hS _ x4.1).2] at f0
          have HT := hid (limbsVal_take_succ ds k hlt')
          obtain ⟨v, hv⟩ : ∃ v, v = ds[k] := ⟨_, rfl⟩
          rw [← hv] at f0 f1 HT
          clear hv
          have hko : off + k < o'.length := by omega
          have c1 := hown'.cell hko
          have c2 := hown'.frozen (off + k)
          obtain ⟨u, hu⟩ : ∃ u, u = o'[off + k] := ⟨_, rfl⟩
          have hu' : u < 4294967296 := by rw [hu]; exact hown'.2.1 _ (List.getElem_mem hko)
          have HUo := hid (show o.getD (off + k) 0 = u by rw [← HO.out (off + k) (.inr (by omega)), hu]; simp [List.getD, hko])
          rw [← hu] at c1
          clear hu
          have HTk := hid (fun d => take_set_snoc (o := o') (off := off) (k := k) (d := d) hko)
          obtain ⟨lo, hlo⟩ : ∃ t : Nat, t = (G * v + c') % 4294967296 := ⟨_, rfl⟩
          obtain ⟨hi, hhi⟩ : ∃ t : Nat, t = (G * v + c') / 4294967296 := ⟨_, rfl⟩
          have hmb : G * v ≤ 4294967296 * 4294967295 := Nat.mul_le_mul hG (by omega)
          have hlh : lo + 4294967296 * hi = G * v + c' := by omega
          have hlo' : lo < 4294967296 := by omega
          have hhi' : hi < 4294967296 := by omega
          have e1 : IntKind.u64.wrap ((G : Int) * (v : Int)) = (G : Int) * (v : Int) := IntWalk.u64_in _ (by rw [← Int.natCast_mul]; omega)
          have e2 : IntKind.u64.wrap ((G : Int) * (v : Int) + (c' : Int)) = (G : Int) * (v : Int) + (c' : Int) := IntWalk.u64_in _ (by rw [← Int.natCast_mul]; omega)
          have elo : ((G : Int) * (v : Int) + (c' : Int)) % 4294967296 = (lo : Int) := by rw [← Int.natCast_mul]; omega
          have ehi : ((G : Int) * (v : Int) + (c' : Int)) / 4294967296 = (hi : Int) := by rw [← Int.natCast_mul]; omega
          obtain ⟨d, hd⟩ : ∃ d : Nat, (d : Int) = ((u : Int) - (lo : Int) - (b' : Int)) % 4294967296 := ⟨(((u : Int) - (lo : Int) - (b' : Int)) % 4294967296).toNat, by omega⟩
          obtain ⟨e, he⟩ : ∃ e : Nat, (e : Int) = borrowZ (u : Int) (lo : Int) (b' : Int) := ⟨(borrowZ (u : Int) (lo : Int) (b' : Int)).toNat, by have := borrowZ_bd (u : Int) (lo : Int) (b' : Int); omega⟩
          have hde : d + lo + b' = u + 4294967296 * e := by unfold borrowZ at he; split at he <;> omega
          have hd1' : d < 4294967296 := by omega
          have he1 : e ≤ 1 := by have := borrowZ_bd (u : Int) (lo : Int) (b' : Int); omega
          have HA := hid (fun W => sub32_any (u : Int) (lo : Int) (b' : Int) W (by omega) (by omega) (by omega) (by omega) (by omega) (by omega))
          rw [← hd, ← he] at HA
          have HDE := hid hde
          have HLH := hid hlh
          clear hd he hde hlh hmb hlo hhi
          go_wp2_with fail
          refine Calls.mono (HA.out _) ?_
          rintro e' w3 ⟨rfl, rfl⟩
          clear HA e1 e2 elo
          go_wp2
          go_roundw
          case rel =>
            refine ⟨k + 1, hi, e, o'.set (off + k) d, by omega, by go_num, rfl, hhi', rfl, he1, hown'.set hko hd1', grow_set hgr _ _, fun j hj => ?_, ?_⟩
            · rw [← HO.out j (by omega)]
              simp [List.getD, List.getElem?_set, show ¬ off + k = j by omega]
            · show limbsVal (((o'.set (off + k) d).drop off).take (k + 1)) + G * limbsVal (ds.take (k + 1)) = limbsVal ((o.drop off).take (k + 1)) + 4294967296 ^ (k + 1) * (e + hi)
              have h1 := HE.out
              rw [HTk.out, limbsVal_snoc, take_len (by omega), HT.out, take_succ_off (by have := Hol.out; omega), limbsVal_snoc, take_len (by have := Hol.out; omega), HUo.out, Nat.mul_add, Nat.pow_succ, Nat.mul_assoc, Nat.mul_left_comm G]
              have h2 : 4294967296 ^ k * d + 4294967296 ^ k * (G * v) + 4294967296 ^ k * (b' + c') = 4294967296 ^ k * u + 4294967296 ^ k * (4294967296 * (e + hi)) := by
                rw [← Nat.mul_add, ← Nat.mul_add, ← Nat.mul_add]
                congr 1
                have := HDE.out
                have := HLH.out
                omega
              omega
          case measure => simp [intOf]; omega
      · have hkn : k = n := by omega
        have hko : off + n < o'.length := by omega
        have c1 := hown'.cell hko
        have c2 := hown'.frozen (off + n)
        obtain ⟨u, hu⟩ : ∃ u, u = o'[off + n] := ⟨_, rfl⟩
        have hu' : u < 4294967296 := by rw [hu]; exact hown'.2.1 _ (List.getElem_mem hko)
        have huo : o.getD (off + n) 0 = u := by rw [← HO.out (off + n) (.inr (by omega)), hu]; simp [List.getD, hko]
        rw [← hu] at c1
        clear hu
        obtain ⟨d, hd⟩ : ∃ d : Nat, (d : Int) = ((u : Int) - (c' : Int) - (b' : Int)) % 4294967296 := ⟨(((u : Int) - (c' : Int) - (b' : Int)) % 4294967296).toNat, by omega⟩
        obtain ⟨e, he⟩ : ∃ e : Nat, (e : Int) = borrowZ (u : Int) (c' : Int) (b' : Int) := ⟨(borrowZ (u : Int) (c' : Int) (b' : Int)).toNat, by have := borrowZ_bd (u : Int) (c' : Int) (b' : Int); omega⟩
        have hde : d + c' + b' = u + 4294967296 * e := by unfold borrowZ at he; split at he <;> omega
        have hd1' : d < 4294967296 := by omega
        have he1 : e ≤ 1 := by have := borrowZ_bd (u : Int) (c' : Int) (b' : Int); omega
        have HA := hid (fun W => sub32_any (u : Int) (c' : Int) (b' : Int) W (by omega) (by omega) (by omega) (by omega) (by omega) (by omega))
        rw [← hd, ← he] at HA
        have hds : ds.take k = ds := List.take_of_length_le (by have := Hdl.out; omega)
        have hfin : limbsVal (((o'.set (off + n) d).drop off).take (n + 1)) + G * D = U + 4294967296 ^ (n + 1) * e := by
          have h1 := HE.out
          rw [hds, ← HD.out, hkn] at h1
          rw [take_set_snoc hko, limbsVal_snoc, take_len (by omega), HUU.out, take_succ_off (by have := Hol.out; omega), limbsVal_snoc, take_len (by have := Hol.out; omega), huo, Nat.pow_succ, Nat.mul_assoc]
          have h2 : 4294967296 ^ n * d + 4294967296 ^ n * (b' + c') = 4294967296 ^ n * u + 4294967296 ^ n * (4294967296 * e) := by
            rw [← Nat.mul_add, ← Nat.mul_add]
            congr 1
            omega
          omega
        have hout : ∀ j, j < off ∨ off + n < j → (o'.set (off + n) d).getD j 0 = o.getD j 0 := fun j hj => by
          rw [← HO.out j (by omega)]
          simp [List.getD, List.getElem?_set, show ¬ off + n = j by omega]
        have hPlt : limbsVal (((o'.set (off + n) d).drop off).take (n + 1)) < 4294967296 ^ (n + 1) := by
          have hlen : (((o'.set (off + n) d).drop off).take (n + 1)).length = n + 1 := take_len (by simp; omega)
          have := limbsVal_lt (xs := ((o'.set (off + n) d).drop off).take (n + 1)) (fun x hx => (hown'.set hko hd1').2.1 x (List.mem_of_mem_drop (List.mem_of_mem_take hx)))
          rwa [hlen] at this
        have HF := hid hfin
        have HOut := hid hout
        have HP := hid hPlt
        have hown2 := hown'.set hko hd1'
        have hgr2 := grow_set hgr (off + n) (.int .u32 d)
        obtain ⟨o2, ho2⟩ : ∃ o2, o2 = o'.set (off + n) d := ⟨_, rfl⟩
        have hl2' : o2.length = N := by rw [ho2]; simp [hol']
        have HL2 := hid hl2'
        clear hl2'
        rw [← ho2] at HF HOut HP hown2
        clear hd he hde hfin hout hPlt hds huo hkn ho2 hown'
        have hq32 : U / D < 4294967296 := Nat.div_lt_of_lt_mul (by rw [Nat.mul_comm]; exact HU'.out)
        by_cases hez : e = 0
        · as_aux_lemma =>
            subst hez
            have h0 := HF.out
            rw [Nat.mul_zero, Nat.add_zero] at h0
            have HQ := hid (knuth_end0 hDpos H2.out h0)
            clear h0
            go_wp2_with fail
            refine Calls.mono (HA.out _) ?_
            rintro e' w3 ⟨rfl, rfl⟩
            clear HA
            go_wp2
            go_ret
            refine ⟨o2, ?_, hown2, HOut.out, HQ.out.2, hgr2⟩
            exact ret_int (by have := HQ.out.1; omega)
        · as_aux_lemma =>
            have he1' : e = 1 := by omega
            subst he1'
            have h0 := HF.out
            rw [Nat.mul_one] at h0
            have HQ := hid (knuth_end1 hDpos H2.out HP.out h0)
            clear h0
            go_wp2_with fail
            refine Calls.mono (HA.out _) ?_
            rintro e' w3 ⟨rfl, rfl⟩
            clear HA hez
            go_wp2
            clear c1 c2 HO HE hgr
            go_loopw [14, 15, 16, 132] (fun c _ _ i wr => ∃ (k c' : Nat) (o' : List Nat), k ≤ n ∧ i = .int .i64 k ∧ c = .int .u32 c' ∧ c' ≤ 1 ∧ OwnL wr g N o' ∧ w.grownBy wr (some g) ∧ Hid (∀ j, (j < off ∨ off + k ≤ j) → o'.getD j 0 = o2.getD j 0) ∧
              Hid (limbsVal ((o'.drop off).take k) + 4294967296 ^ k * c' = limbsVal ((o2.drop off).take k) + limbsVal (ds.take k))) (fun _ _ _ i _ => n - (intOf i).toNat)
            case atStart => exact ⟨0, 0, o2, by omega, rfl, rfl, by omega, hown2, hgr2, fun j _ => rfl, by simp [Hid, limbsVal]⟩
            case round =>
              clear hown2 hgr2
              obtain ⟨k, c', o3, hk, rfl, rfl, hc', hown3, hgr3, HO3, HE3⟩ := hrel
              have hol3 := hown3.1
              by_cases hlt : k < n
              · as_aux_lemma =>
                  have hlt' : k < ds.length := by have := Hdl.out; omega
                  obtain ⟨f0, f1⟩ := x4.u32 hlt'
                  rw [← grow_cell hgr3 (hS _ x4.1).1 (hS _ x4.1).2] at f0
                  have HT := hid (limbsVal_take_succ ds k hlt')
                  obtain ⟨v, hv⟩ : ∃ v, v = ds[k] := ⟨_, rfl⟩
                  rw [← hv] at f0 f1 HT
                  clear hv
                  have hko : off + k < o3.length := by omega
                  have c1 := hown3.cell hko
                  have c2 := hown3.frozen (off + k)
                  obtain ⟨x, hx⟩ : ∃ x, x = o3[off + k] := ⟨_, rfl⟩
                  have hx' : x < 4294967296 := by rw [hx]; exact hown3.2.1 _ (List.getElem_mem hko)
                  have HXo := hid (show o2.getD (off + k) 0 = x by rw [← HO3.out (off + k) (.inr (by omega)), hx]; simp [List.getD, hko])
                  rw [← hx] at c1
                  clear hx
                  have HTk := hid (fun d => take_set_snoc (o := o3) (off := off) (k := k) (d := d) hko)
                  obtain ⟨d, hd⟩ : ∃ d : Nat, (d : Int) = ((x : Int) + (v : Int) + (c' : Int)) % 4294967296 := ⟨((x + v + c') % 4294967296), by omega⟩
                  obtain ⟨e, he⟩ : ∃ e : Nat, (e : Int) = ((x : Int) + (v : Int) + (c' : Int)) / 4294967296 := ⟨((x + v + c') / 4294967296), by omega⟩
                  have hde : d + 4294967296 * e = x + v + c' := by omega
                  have hd1' : d < 4294967296 := by omega
                  have he1 : e ≤ 1 := by omega
                  have HA := hid (fun W => add32_any (x : Int) (v : Int) (c' : Int) W (by omega) (by omega) (by omega) (by omega) (by omega) (by omega))
                  rw [← hd, ← he] at HA
                  have HDE := hid hde
                  clear hd he hde
                  go_wp2_with fail
                  refine Calls.mono (HA.out _) ?_
                  rintro e' w3 ⟨rfl, rfl⟩
                  clear HA
                  go_wp2
                  go_roundw
                  case rel =>
                    have hl2 : o2.length = o3.length := by
                      have := HP.out
                      exact HL2.out.trans hol3.symm
                    refine ⟨k + 1, e, o3.set (off + k) d, by omega, by go_num, rfl, he1, hown3.set hko hd1', grow_set hgr3 _ _, fun j hj => ?_, ?_⟩
                    · rw [← HO3.out j (by omega)]
                      simp [List.getD, List.getElem?_set, show ¬ off + k = j by omega]
                    · show limbsVal (((o3.set (off + k) d).drop off).take (k + 1)) + 4294967296 ^ (k + 1) * e = limbsVal ((o2.drop off).take (k + 1)) + limbsVal (ds.take (k + 1))
                      have h1 := HE3.out
                      rw [HTk.out, limbsVal_snoc, take_len (by omega), HT.out, take_succ_off (by omega), limbsVal_snoc, take_len (by omega), HXo.out, Nat.pow_succ, Nat.mul_assoc]
                      have h2 : 4294967296 ^ k * d + 4294967296 ^ k * (4294967296 * e) = 4294967296 ^ k * x + 4294967296 ^ k * v + 4294967296 ^ k * c' := by
                        rw [← Nat.mul_add, HDE.out, Nat.mul_add, Nat.mul_add]
                      omega
                  case measure => simp [intOf]; omega
              · as_aux_lemma =>
                  have hkn : k = n := by omega
                  have hl2 : o2.length = o3.length := HL2.out.trans hol3.symm
                  have hko : off + n < o3.length := by omega
                  have c1 := hown3.cell hko
                  have c2 := hown3.frozen (off + n)
                  obtain ⟨x, hx⟩ : ∃ x, x = o3[off + n] := ⟨_, rfl⟩
                  have hx' : x < 4294967296 := by rw [hx]; exact hown3.2.1 _ (List.getElem_mem hko)
                  have hxo : o2.getD (off + n) 0 = x := by rw [← HO3.out (off + n) (.inr (by omega)), hx]; simp [List.getD, hko]
                  rw [← hx] at c1
                  clear hx
                  obtain ⟨d, hd⟩ : ∃ d : Nat, d = (x + c') % 4294967296 := ⟨_, rfl⟩
                  obtain ⟨e, he⟩ : ∃ e : Nat, e = (x + c') / 4294967296 := ⟨_, rfl⟩
                  have hde : d + 4294967296 * e = x + c' := by omega
                  have hd1' : d < 4294967296 := by omega
                  have hdi : ((x : Int) + (c' : Int)) % 4294967296 = (d : Int) := by omega
                  have hds : ds.take k = ds := List.take_of_length_le (by have := Hdl.out; omega)
                  have hDlt : D < 4294967296 ^ n := by
                    have := limbsVal_lt hdlt.out
                    rw [← HD.out, Hdl.out] at this
                    exact this
                  have hfin : limbsVal (((o3.set (off + n) d).drop off).take (n + 1)) = U % D := by
                    have h1 := HE3.out
                    rw [hds, ← HD.out, hkn] at h1
                    have h3 := HQ.out.2
                    rw [take_succ_off (by omega), limbsVal_snoc, take_len (by omega), hxo] at h3
                    have hlt3 : limbsVal (((o3.set (off + n) d).drop off).take (n + 1)) < 4294967296 ^ (n + 1) := by
                      have hlen : (((o3.set (off + n) d).drop off).take (n + 1)).length = n + 1 := take_len (by simp; omega)
                      have := limbsVal_lt (xs := ((o3.set (off + n) d).drop off).take (n + 1)) (fun y hy => (hown3.set hko hd1').2.1 y (List.mem_of_mem_drop (List.mem_of_mem_take hy)))
                      rwa [hlen] at this
                    rw [take_set_snoc hko, limbsVal_snoc, take_len (by omega)] at hlt3 ⊢
                    have h2 : 4294967296 ^ n * d + 4294967296 ^ n * (4294967296 * e) = 4294967296 ^ n * x + 4294967296 ^ n * c' := by
                      rw [← Nat.mul_add, hde, Nat.mul_add]
                    have h4 : U % D < 4294967296 ^ n := Nat.lt_trans (Nat.mod_lt _ hDpos) hDlt
                    have h5 : 4294967296 ^ (n + 1) = 4294967296 ^ n * 4294967296 := by rw [Nat.pow_succ]
                    have h6 : 4294967296 ^ n * (4294967296 * e) = 4294967296 ^ (n + 1) * e := by rw [h5, Nat.mul_assoc]
                    have he01 : e = 0 ∨ e = 1 := by omega
                    rcases he01 with h | h
                    · subst h; omega
                    · subst h; omega
                  have hout : ∀ j, j < off ∨ off + n < j → (o3.set (off + n) d).getD j 0 = o.getD j 0 := fun j hj => by
                    rw [← HOut.out j hj, ← HO3.out j (by omega)]
                    simp [List.getD, List.getElem?_set, show ¬ off + n = j by omega]
                  have HF3 := hid hfin
                  have HOut3 := hid hout
                  have e1 : IntKind.u64.wrap ((G : Int) - 1) = ((G - 1 : Nat) : Int) := by
                    have h0 : 1 ≤ G := by rw [HQ.out.1]; exact Nat.le_add_left 1 _
                    have : (G : Int) - 1 = ((G - 1 : Nat) : Int) := by omega
                    rw [this]; exact IntWalk.u64_in _ (by omega)
                  have hR : Hid (((G - 1 : Nat) : Int) = ((U / D : Nat) : Int)) := by
                    show ((G - 1 : Nat) : Int) = ((U / D : Nat) : Int)
                    have : G - 1 = U / D := by rw [HQ.out.1]; rfl
                    rw [this]
                  clear he hde hfin hout hds hxo hkn hDlt hd hl2
                  go_wp2
                  go_ret
                  exact ⟨o3.set (off + n) d, ret_int hR.out, hown3.set hko hd1', HOut3.out, HF3.out, grow_set hgr3 _ _⟩

end Go.Proofs.YtgmedcncbpdimaaDoor
