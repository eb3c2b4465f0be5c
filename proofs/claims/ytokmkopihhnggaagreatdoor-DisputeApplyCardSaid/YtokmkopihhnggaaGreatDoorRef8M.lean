/- insolvencyref1: divide, first two cases: walked. -/
import Derived.Test.YtokmkopihhnggaaGreatDoorRef4M
import Derived.Deep.CutBlock
import Derived.Deep.DeepCutAuto
import Derived.Lib.BitFns
import Derived.StillTailTactics
set_option linter.unusedVariables false
set_option linter.unusedSimpArgs false
namespace Go.Proofs.YtokmkopihhnggaaGreatDoor
open Go.RowKit
theorem rdivide_lt (S : Nat → Prop) (u v : Value) (x y : Nat) (w : World) (hS : ∀ b, S b → b < w.heap.size) (hxy : x < y) (hu : rSlice 1 rU32 w S [u] (limbsOf x)) (hv : rSlice 1 rU32 w S [v] (limbsOf y)) :
  Calls Tryz.prog 218 #[u, v] w fun e w' => ∃ q r, e = .returned (.tuple #[q, r]) ∧ rSlice 1 rU32 w' (LT w'.heap.size) [q] (limbsOf (x / y)) ∧ rSlice 1 rU32 w' (LT w'.heap.size) [r] (limbsOf (x % y)) ∧ Below w.heap.size w w' := by
 have hc := order_any S u v x y w hS hu hv
 rw [natCmp_lt hxy] at hc
 have HC := hid hc
 clear hc
 go_enter Tryz.func218, Tryz.ntmps218
 go_wp2_with fail
 refine Calls.mono HC.out ?_
 rintro e w1 ⟨rfl, hb1⟩
 go_wp2
 go_ret2
 refine ⟨_, _, rfl, ?_, ?_, hb1⟩
 ·rw [Nat.div_eq_of_lt hxy]; exact rSlice_nil32 _ _
 rw [Nat.mod_eq_of_lt hxy]
 exact (stays_rSlice stays_rU32) _ _ _ _ _ _ hu (fun b hb => hb1.block b (hS b hb)) fun b hb => Nat.lt_of_lt_of_le (hS b hb) hb1.size
set_option maxRecDepth 100000 in
theorem rdivide_small (S : Nat → Prop) (u v : Value) (x y : Nat) (w : World) (hS : ∀ b, S b → b < w.heap.size) (hl : (limbsOf x).length ≤ 1000000000000) (hxy : y ≤ x) (hy1 : (limbsOf y).length = 1) (hu : rSlice 1 rU32 w S [u] (limbsOf x)) (hv : rSlice 1 rU32 w S [v] (limbsOf y)) :
  Calls Tryz.prog 218 #[u, v] w fun e w' => ∃ q r, e = .returned (.tuple #[q, r]) ∧ rSlice 1 rU32 w' (LT w'.heap.size) [q] (limbsOf (x / y)) ∧ rSlice 1 rU32 w' (LT w'.heap.size) [r] (limbsOf (x % y)) ∧ Below w.heap.size w w' := by
 obtain ⟨ey, hy0, hyW⟩ := limbsOf_one hy1
 have hc := order_any S u v x y w hS hu hv
 have hcn : ¬ natCmp x y < 0 := by unfold natCmp; rw [if_neg (by omega)]; split <;> omega
 have HC := hid hc
 clear hc
 have hv' := hv
 have hu' := hid hu
 have hvx := hid (limbsVal_limbsOf x)
 rw [ey] at hv'
 obtain ⟨va, vc, rfl, v1, v2, v3, v4⟩ := u32s_open hv'
 rcases v4 with v4 | ⟨vb, voff, rfl, v4⟩
 ·cases v4
 have g0 := (v4.u32 (j := 0) (by simp)).1
 have hvS := hS vb v4.1
 simp only [List.getElem_cons_zero, Nat.add_zero] at g0
 have hsz : ([y] : List Nat).length = 1 := rfl
 clear hv hv' ey
 go_enter Tryz.func218, Tryz.ntmps218
 go_wp2_with fail
 refine Calls.mono HC.out ?_
 rintro e w1 ⟨rfl, hb1⟩
 rw [← hb1.cell (p := ⟨vb, voff, none⟩) hvS] at g0
 have hu1 : rSlice 1 rU32 w1 (LT w1.heap.size) [u] (limbsOf x) := (stays_rSlice stays_rU32) _ _ _ _ _ _ hu'.out (fun b hb => hb1.block b (hS b hb)) fun b hb => Nat.lt_of_lt_of_le (hS b hb) hb1.size
 have HD := hid (short_any _ _ _ y _ (fun _ h => h) hl hy0 hyW hu1)
 rw [hvx.out] at HD
 have hxm : x % y < 4294967296 := Nat.lt_of_lt_of_le (Nat.mod_lt _ hy0) (by omega)
 go_wp2_with fail
 refine Calls.mono HD.out ?_
 rintro e w2 ⟨q, rfl, hq, hb2⟩
 have hO : OwnL (w2.alloc (.cells #[.int .u32 ((x % y : Nat) : Int)] 206)) w2.heap.size 1 [x % y] := by
  refine ⟨rfl, fun z hz => by simp at hz; omega, fun j => .int .u32 (([x % y] : List Nat).getD j 0 : Nat), ?_, fun j => rfl⟩
  have := Own.new w2 206 1 (fun j => .int .u32 (([x % y] : List Nat).getD j 0 : Nat))
  have e : (Array.range 1).map (fun j => Value.int .u32 (([x % y] : List Nat).getD j 0 : Nat)) = #[.int .u32 ((x % y : Nat) : Int)] := by
   apply Array.ext'
   simp [List.range_succ]
  rw [e] at this
  exact this
 have hT := strip_any _ _ _ _ (hO.slice (by omega))
 have e1 : limbsVal [x % y] = x % y := by simp [limbsVal]
 rw [e1] at hT
 have HT := hid hT
 have hb3 : Below w2.heap.size w2 (w2.alloc (.cells #[.int .u32 ((x % y : Nat) : Int)] 206)) := (Below.refl _ _).alloc (Nat.le_refl _) _
 clear hT e1 hO hu1
 go_wp2_with fail
 refine Calls.mono HT.out ?_
 rintro e w3 ⟨r, rfl, rfl, hr⟩
 go_wp2
 go_ret2
 exact ⟨_, _, rfl, (stays_rSlice stays_rU32).below hq hb3 hb3.size, hr, hb1.step (hb2.step hb3)⟩
theorem grow_set {w w' : World} {g : Nat} (h : w.grownBy w' (some g)) (p : Nat) (v : Value) : w.grownBy (w'.setCell ⟨g, p, none⟩ v) (some g) :=
 ⟨h.os, h.tape, h.output, by simpa using h.size, fun k hk hne => by rw [Below.heap_setCell _ _ _ _ (fun e => hne (by rw [e]))]; exact h.block k hk hne⟩
theorem grow_drewN {w w' : World} {r : Option Nat} (h : w.grownBy w' r) (n : Nat) : w.grownBy (w'.drewN n) r := ⟨h.os, h.tape, h.output, h.size, h.block⟩
theorem grow_cell {w w' : World} {g b : Nat} (h : w.grownBy w' (some g)) (hb : b < w.heap.size) (hne : b ≠ g) (o : Nat) : w'.cell? ⟨b, o, none⟩ = w.cell? ⟨b, o, none⟩ :=
 World.cell?_of_block (h.block b hb (fun e => hne (Option.some.inj e)))
theorem OwnL.drewN {w : World} {g n : Nat} {o : List Nat} (h : OwnL w g n o) (k : Nat) : OwnL (w.drewN k) g n o := h
set_option maxRecDepth 100000 in
set_option maxHeartbeats 2000000 in
theorem step_any (S : Nat → Prop) (v : Value) (ds o : List Nat) (g off N cap n : Nat) (w : World) (hS : ∀ b, S b → b < w.heap.size ∧ b ≠ g) (hN : N ≤ 1000000000000) (hn2 : 2 ≤ n) (hdl : ds.length = n) (hoff : off + n < N) (hcap : n + 1 ≤ cap)
    (hv : rSlice 1 rU32 w S [v] ds) (hown : OwnL w g N o) (htop : 2147483648 ≤ ds.getD (n - 1) 0) (hU : limbsVal ((o.drop off).take (n + 1)) < 4294967296 * limbsVal ds) :
    Calls Tryz.prog 215 #[.slice (some ⟨g, off, none⟩) (n + 1) cap, v] w fun e w' => ∃ o', e = .returned (.int .u32 ((limbsVal ((o.drop off).take (n + 1)) / limbsVal ds : Nat) : Int)) ∧ OwnL w' g N o' ∧
      (∀ j, j < off ∨ off + n < j → o'.getD j 0 = o.getD j 0) ∧ limbsVal ((o'.drop off).take (n + 1)) = limbsVal ((o.drop off).take (n + 1)) % limbsVal ds ∧ w.grownBy w' (some g) := by
  have hdlt := hid (u32s_lt hv)
  obtain ⟨da, dc, rfl, x1, x2, x3, x4⟩ := u32s_open hv
  rcases x4 with rfl | ⟨db, doff, rfl, x4⟩
  · simp at hdl; omega
  rw [hdl]
  have n1 : (n : Int) - 1 = ((n - 1 : Nat) : Int) := by omega
  have n2 : (n : Int) - 2 = ((n - 2 : Nat) : Int) := by omega
  have hol := hown.1
  have hw0 : off + n < o.length := by omega
  have hw1 : off + (n - 1) < o.length := by omega
  have hw2 : off + (n - 2) < o.length := by omega
  have c0 := hown.cell hw0
  have c1 := hown.cell hw1
  have c2 := hown.cell hw2
  have hd1 : n - 1 < ds.length := by omega
  have hd2 : n - 2 < ds.length := by omega
  have k1 := (x4.u32 hd1).1
  have k2 := (x4.u32 hd2).1
  obtain ⟨un, hun⟩ : ∃ x, x = o[off + n] := ⟨_, rfl⟩
  obtain ⟨u1, hu1⟩ : ∃ x, x = o[off + (n - 1)] := ⟨_, rfl⟩
  obtain ⟨u2, hu2⟩ : ∃ x, x = o[off + (n - 2)] := ⟨_, rfl⟩
  obtain ⟨dt, hdt⟩ : ∃ x, x = ds[n - 1] := ⟨_, rfl⟩
  obtain ⟨d2, hd2'⟩ : ∃ x, x = ds[n - 2] := ⟨_, rfl⟩
  have l0 : un < 4294967296 := by rw [hun]; exact hown.2.1 _ (List.getElem_mem hw0)
  have l1 : u1 < 4294967296 := by rw [hu1]; exact hown.2.1 _ (List.getElem_mem hw1)
  have l2 : u2 < 4294967296 := by rw [hu2]; exact hown.2.1 _ (List.getElem_mem hw2)
  have l3 : dt < 4294967296 := by rw [hdt]; exact hdlt.out _ (List.getElem_mem hd1)
  have l4 : d2 < 4294967296 := by rw [hd2']; exact hdlt.out _ (List.getElem_mem hd2)
  have htop' : 2147483648 ≤ dt := by simpa [List.getD, hd1, ← hdt] using htop
  rw [← hun] at c0
  rw [← hu1] at c1
  rw [← hu2] at c2
  rw [← hdt] at k1
  rw [← hd2'] at k2
  have o1 := or32_add un u1 l0 l1
  obtain ⟨G0, hG0⟩ : ∃ G : Nat, G = (un * 4294967296 + u1) / dt := ⟨_, rfl⟩
  obtain ⟨R0, hR0⟩ : ∃ R : Nat, R = (un * 4294967296 + u1) % dt := ⟨_, rfl⟩
  have hGR : G0 * dt + R0 = un * 4294967296 + u1 := by rw [hG0, hR0, Nat.mul_comm]; exact Nat.div_add_mod _ _
  have hR0l : R0 < dt := by rw [hR0]; exact Nat.mod_lt _ (by omega)
  have eT : ((un * 4294967296 + u1 : Nat) : Int) = (un : Int) * 4294967296 + (u1 : Int) := by omega
  have q1 : ((un : Int) * 4294967296 + (u1 : Int)) / (dt : Int) = (G0 : Int) := by rw [hG0, Int.natCast_ediv, eT]
  have q2 : ((un : Int) * 4294967296 + (u1 : Int)) % (dt : Int) = (R0 : Int) := by rw [hR0, Int.natCast_emod, eT]
  clear eT
  have Hun := hid hun
  have Hu1 := hid hu1
  have Hu2 := hid hu2
  have Hdt := hid hdt
  have Hd2 := hid hd2'
  have HGR := hid hGR
  have HU := hid hU
  have Hol := hid hol
  have Hdl := hid hdl
  obtain ⟨D, hD⟩ : ∃ D, D = limbsVal ds := ⟨_, rfl⟩
  obtain ⟨U, hUU⟩ : ∃ U, U = limbsVal ((o.drop off).take (n + 1)) := ⟨_, rfl⟩
  have hM : ∃ M D0 U0, 0 < M ∧ D0 < M ∧ U0 < M ∧ D = (dt * 4294967296 + d2) * M + D0 ∧ U = ((un * 4294967296 + u1) * 4294967296 + u2) * M + U0 := by
    obtain ⟨D0, h1, h2⟩ := split_top2 hdlt.out (n - 2) (by omega)
    obtain ⟨U0, h3, h4⟩ := split_top3 (xs := (o.drop off).take (n + 1)) (fun x hx => hown.2.1 x (List.mem_of_mem_drop (List.mem_of_mem_take hx))) (n - 2) (by simp; omega)
    refine ⟨4294967296 ^ (n - 2), D0, U0, ww_pos _, h1, h3, ?_, ?_⟩
    · rw [hD, h2, show n - 2 + 1 = n - 1 by omega]
      simp [List.getD, hd1, hd2, ← hdt, ← hd2']
    rw [hUU, h4, show n - 2 + 1 = n - 1 by omega, show n - 2 + 2 = n by omega]
    have g0 : ((o.drop off).take (n + 1)).getD n 0 = un := by simp [List.getD, List.getElem?_take, hw0, ← hun]
    have g1 : ((o.drop off).take (n + 1)).getD (n - 1) 0 = u1 := by simp [List.getD, List.getElem?_take, hw1, ← hu1, show n - 1 < n + 1 by omega]
    have g2 : ((o.drop off).take (n + 1)).getD (n - 2) 0 = u2 := by simp [List.getD, List.getElem?_take, hw2, ← hu2, show n - 2 < n + 1 by omega]
    rw [g0, g1, g2]
  rw [← hD, ← hUU] at hU HU
  rw [← hD, ← hUU]
  obtain ⟨M, D0, U0, hM0, hD0, hU0, hDe, hUe⟩ := hM
  have hun_le : un ≤ dt := knuth_un hDe hUe hD0 l4 hU
  have hG0l : G0 ≤ 4294967297 := knuth_g0 htop' hun_le l1 hGR
  have hGU : U < (G0 + 1) * D := knuth_first hDe hUe hU0 l2 hGR hR0l
  have hDpos : 0 < D := by
    rw [hDe]
    have : 1 * M ≤ (dt * 4294967296 + d2) * M := Nat.mul_le_mul_right _ (by omega)
    omega
  have HdecL := hid (fun G R h hg => knuth_dec (G := G) (R := R) hDe hUe hU0 h hg)
  have HexitL := hid (fun G R h hg hG => knuth_exit (G := G) (R := R) hDe hUe hD0 hU0 (by omega) h hg hG)
  have HD := hid hD
  have HUU := hid hUU
  have HGU := hid hGU
  have HU' := hid hU
  clear hun hu1 hu2 hdt hd2' hGR hG0 hR0 hU hol hdl htop hD hUU hDe hUe hGU hM0 hD0 hU0 HU
  go_enter Tryz.func215, Tryz.ntmps215
  go_wp2
  go_quiet (fail)
  go_wp2
  go_quiet (fail)
  go_upto_block 0 with fail
  go_cut [7, 8] (fun s7 _ wx => ∃ G : Nat, s7 = .int .u64 G ∧ G ≤ 4294967296 ∧ Hid (U < (G + 1) * D) ∧ Hid (G * D ≤ U + D) ∧ OwnL wx g N o ∧ w.grownBy wx (some g))
  case first =>
    go_wp2_with fail
    go_loopw [7, 8] (fun s7 s8 wr => ∃ G R : Nat, s7 = .int .u64 G ∧ s8 = .int .u64 R ∧ Hid (G * dt + R = un * 4294967296 + u1) ∧ R < 4294967296 ∧ G ≤ 4294967297 ∧ Hid (U < (G + 1) * D) ∧ OwnL wr g N o ∧ w.grownBy wr (some g)) (fun s7 _ _ => (intOf s7).toNat)
    case atStart => exact ⟨G0, R0, by rw [q1], by rw [q2], HGR, by omega, hG0l, HGU, hown, grow_drewN (grow_drewN (World.grownBy.refl _ _) _) _⟩
    case round =>
      clear c0 c1 c2 k1 k2 hown
      obtain ⟨G, R, rfl, rfl, HG, hR, hGl, HGu, hown, hgr⟩ := hrel
      have k1 := (x4.u32 hd1).1
      have k2 := (x4.u32 hd2).1
      rw [← grow_cell hgr (hS _ x4.1).1 (hS _ x4.1).2, ← Hdt.out] at k1
      rw [← grow_cell hgr (hS _ x4.1).1 (hS _ x4.1).2, ← Hd2.out] at k2
      have c2 := hown.cell hw2
      rw [← Hu2.out] at c2
      by_cases hA : 4294967296 ≤ G
      · have dA : decide ((4294967296 : Int) ≤ (G : Int)) = true := by simp; omega
        have HG0 := hid (show 0 < G by omega)
        have HLT := hid (show U < G * D from Nat.lt_of_lt_of_le HU'.out (Nat.mul_le_mul_right _ hA))
        have e1 : IntKind.u64.wrap ((G : Int) - 1) = ((G - 1 : Nat) : Int) := by
          have : (G : Int) - 1 = ((G - 1 : Nat) : Int) := by omega
          rw [this]; exact IntWalk.u64_in _ (by omega)
        have e2 : IntKind.u64.wrap ((R : Int) + (dt : Int)) = (R : Int) + (dt : Int) := IntWalk.u64_in _ (by omega)
        have hq : Hid (U < (G - 1 + 1) * D) := by show U < (G - 1 + 1) * D; rw [show G - 1 + 1 = G by omega]; exact HLT.out
        have hgr2 : Hid ((G - 1) * dt + (R + dt) = un * 4294967296 + u1) := by
          show (G - 1) * dt + (R + dt) = un * 4294967296 + u1
          rw [← HG.out]
          have : G * dt = (G - 1) * dt + dt := by conv => lhs; rw [show G = G - 1 + 1 by omega, Nat.add_mul, Nat.one_mul]
          omega
        have hG1 : G - 1 ≤ 4294967296 := by omega
        by_cases hB : 4294967296 ≤ R + dt
        · have dB : decide ((4294967296 : Int) ≤ (R : Int) + (dt : Int)) = true := by simp; omega
          have hex : Hid ((G - 1) * D ≤ U + D) := HexitL.out (G - 1) (R + dt) hgr2.out (by
            have h1 : (G - 1) * d2 ≤ 4294967296 * 4294967296 := Nat.mul_le_mul hG1 (by omega)
            have h2 : 4294967296 * 4294967296 ≤ (R + dt) * 4294967296 := Nat.mul_le_mul_right _ hB
            omega) hG1
          have HB := hid hB
          clear hA hGl hB
          go_wp2
          go_quiet (fail)
          go_upto_region 7 with fail
          go_wp2
          go_meet
          case rel => exact ⟨G - 1, rfl, hG1, hq, hex, hown.drewN _, grow_drewN hgr _⟩
        have dB : decide ((4294967296 : Int) ≤ (R : Int) + (dt : Int)) = false := by simp; omega
        have HB := hid hB
        have hRd : R + dt < 4294967296 := by omega
        have HRd := hid hRd
        clear hA hGl hB hRd
        go_wp2
        go_quiet (fail)
        go_upto_region 7 with fail
        go_wp2
        go_roundw
        case rel => exact ⟨G - 1, R + dt, rfl, by go_num, hgr2, HRd.out, by have := hG1; omega, hq, hown.drewN _, grow_drewN hgr _⟩
        case measure => have := HG0.out; simp [intOf]; omega
      have dA : decide ((4294967296 : Int) ≤ (G : Int)) = false := by simp; omega
      have hGl' : G < 4294967296 := by omega
      have hmb := mul_bd hGl' l4
      have e3 : IntKind.u64.wrap ((G : Int) * (d2 : Int)) = (G : Int) * (d2 : Int) := IntWalk.u64_in _ (by rw [← Int.natCast_mul]; omega)
      have o2 := or32_add R u2 hR l2
      by_cases hC : R * 4294967296 + u2 < G * d2
      · have dC : decide ((R : Int) * 4294967296 + (u2 : Int) < (G : Int) * (d2 : Int)) = true := by rw [← Int.natCast_mul]; simp; omega
        have HG0 := hid (show 0 < G by rcases Nat.eq_zero_or_pos G with h | h; · subst h; omega
                                       exact h)
        have HLT := hid (HdecL.out G R HG.out hC)
        have HG00 := HG0.out
        have e1 : IntKind.u64.wrap ((G : Int) - 1) = ((G - 1 : Nat) : Int) := by
          have : (G : Int) - 1 = ((G - 1 : Nat) : Int) := by omega
          rw [this]; exact IntWalk.u64_in _ (by omega)
        have e2 : IntKind.u64.wrap ((R : Int) + (dt : Int)) = (R : Int) + (dt : Int) := IntWalk.u64_in _ (by omega)
        have hq : Hid (U < (G - 1 + 1) * D) := by show U < (G - 1 + 1) * D; rw [show G - 1 + 1 = G by omega]; exact HLT.out
        have hgr2 : Hid ((G - 1) * dt + (R + dt) = un * 4294967296 + u1) := by
          show (G - 1) * dt + (R + dt) = un * 4294967296 + u1
          rw [← HG.out]
          have : G * dt = (G - 1) * dt + dt := by conv => lhs; rw [show G = G - 1 + 1 by omega, Nat.add_mul, Nat.one_mul]
          omega
        have hG1 : G - 1 ≤ 4294967296 := by omega
        by_cases hB : 4294967296 ≤ R + dt
        · have dB : decide ((4294967296 : Int) ≤ (R : Int) + (dt : Int)) = true := by simp; omega
          have hex : Hid ((G - 1) * D ≤ U + D) := HexitL.out (G - 1) (R + dt) hgr2.out (by
            have h1 : (G - 1) * d2 ≤ 4294967296 * 4294967296 := Nat.mul_le_mul hG1 (by omega)
            have h2 : 4294967296 * 4294967296 ≤ (R + dt) * 4294967296 := Nat.mul_le_mul_right _ hB
            omega) hG1
          have HB := hid hB
          clear hA hGl hB hmb hC hGl'
          go_wp2
          go_quiet (fail)
          go_upto_region 7 with fail
          go_wp2
          go_meet
          case rel => exact ⟨G - 1, rfl, hG1, hq, hex, hown.drewN _, grow_drewN hgr _⟩
        have dB : decide ((4294967296 : Int) ≤ (R : Int) + (dt : Int)) = false := by simp; omega
        have HB := hid hB
        have hRd : R + dt < 4294967296 := by omega
        have HRd := hid hRd
        clear hA hGl hB hRd hmb hC hGl'
        go_wp2
        go_quiet (fail)
        go_upto_region 7 with fail
        go_wp2
        go_roundw
        case rel => exact ⟨G - 1, R + dt, rfl, by go_num, hgr2, HRd.out, by have := hG1; omega, hq, hown.drewN _, grow_drewN hgr _⟩
        case measure => have := HG0.out; simp [intOf]; omega
      have dC : decide ((R : Int) * 4294967296 + (u2 : Int) < (G : Int) * (d2 : Int)) = false := by rw [← Int.natCast_mul]; simp; omega
      have hex : Hid (G * D ≤ U + D) := HexitL.out G R HG.out (by omega) (by omega)
      have hG1 : G ≤ 4294967296 := by omega
      have HG1 := hid hG1
      clear hA hGl hC hmb hGl' hG1
      go_wp2
      go_quiet (fail)
      go_wp2
      go_meet
      case rel => exact ⟨G, rfl, HG1.out, HGu, hex, hown.drewN _, grow_drewN hgr _⟩
  case rest =>
    obtain ⟨G, rfl, hG, HGu, HGe, hownc, hgrc⟩ := hcut
    clear c0 c1 c2 k1 k2 q1 q2 o1
    have H2 := hid (knuth_two hDpos HGu.out HGe.out)
    go_wp2
    go_loopw [9, 10, 11, 12, 13, 84] (fun c b _ _ _ i wr => ∃ (k c' b' : Nat) (o' : List Nat), k ≤ n ∧ i = .int .i64 k ∧ c = .int .u64 c' ∧ c' < 4294967296 ∧ b = .int .u32 b' ∧ b' ≤ 1 ∧ OwnL wr g N o' ∧ w.grownBy wr (some g) ∧ Hid (∀ j, (j < off ∨ off + k ≤ j) → o'.getD j 0 = o.getD j 0) ∧
      Hid (limbsVal ((o'.drop off).take k) + G * limbsVal (ds.take k) = limbsVal ((o.drop off).take k) + 4294967296 ^ k * (b' + c'))) (fun _ _ _ _ _ i _ => n - (intOf i).toNat)
    case atStart => exact ⟨0, 0, 0, o, by omega, rfl, rfl, by omega, rfl, by omega, hownc, hgrc, fun j _ => rfl, by simp [Hid, limbsVal]⟩
    case round =>
      obtain ⟨k, c', b', o', hk, rfl, rfl, hc', rfl, hb', hown', hgr, HO, HE⟩ := hrel
      have hol' := hown'.1
      by_cases hlt : k < n
      · as_aux_lemma =>
          have hlt' : k < ds.length := by have := Hdl.out; omega
          obtain ⟨f0, f1⟩ := x4.u32 hlt'
          rw [← grow_cell hgr (hS _ x4.1).1 (hS _ x4.1).2] at f0
          have HT := hid (limbsVal_take_succ ds k hlt')
          obtain ⟨v, hv⟩ : ∃ v, v = ds[k] := ⟨_, rfl⟩
          rw [← hv] at f0 f1 HT
          clear hv
          have hko : off + k < o'.length := by omega
          have c1 := hown'.cell hko
          have c2 := hown'.frozen (off + k)
          obtain ⟨u, hu⟩ : ∃ u, u = o'[off + k] := ⟨_, rfl⟩
          have hu' : u < 4294967296 := by rw [hu]; exact hown'.2.1 _ (List.getElem_mem hko)
          have HUo := hid (show o.getD (off + k) 0 = u by rw [← HO.out (off + k) (.inr (by omega)), hu]; simp [List.getD, hko])
          rw [← hu] at c1
          clear hu
          have HTk := hid (fun d => take_set_snoc (o := o') (off := off) (k := k) (d := d) hko)
          obtain ⟨lo, hlo⟩ : ∃ t : Nat, t = (G * v + c') % 4294967296 := ⟨_, rfl⟩
          obtain ⟨hi, hhi⟩ : ∃ t : Nat, t = (G * v + c') / 4294967296 := ⟨_, rfl⟩
          have hmb : G * v ≤ 4294967296 * 4294967295 := Nat.mul_le_mul hG (by omega)
          have hlh : lo + 4294967296 * hi = G * v + c' := by omega
          have hlo' : lo < 4294967296 := by omega
          have hhi' : hi < 4294967296 := by omega
          have e1 : IntKind.u64.wrap ((G : Int) * (v : Int)) = (G : Int) * (v : Int) := IntWalk.u64_in _ (by rw [← Int.natCast_mul]; omega)
          have e2 : IntKind.u64.wrap ((G : Int) * (v : Int) + (c' : Int)) = (G : Int) * (v : Int) + (c' : Int) := IntWalk.u64_in _ (by rw [← Int.natCast_mul]; omega)
          have elo : ((G : Int) * (v : Int) + (c' : Int)) % 4294967296 = (lo : Int) := by rw [← Int.natCast_mul]; omega
          have ehi : ((G : Int) * (v : Int) + (c' : Int)) / 4294967296 = (hi : Int) := by rw [← Int.natCast_mul]; omega
          obtain ⟨d, hd⟩ : ∃ d : Nat, (d : Int) = ((u : Int) - (lo : Int) - (b' : Int)) % 4294967296 := ⟨(((u : Int) - (lo : Int) - (b' : Int)) % 4294967296).toNat, by omega⟩
          obtain ⟨e, he⟩ : ∃ e : Nat, (e : Int) = borrowZ (u : Int) (lo : Int) (b' : Int) := ⟨(borrowZ (u : Int) (lo : Int) (b' : Int)).toNat, by have := borrowZ_bd (u : Int) (lo : Int) (b' : Int); omega⟩
          have hde : d + lo + b' = u + 4294967296 * e := by unfold borrowZ at he; split at he <;> omega
          have hd1' : d < 4294967296 := by omega
          have he1 : e ≤ 1 := by have := borrowZ_bd (u : Int) (lo : Int) (b' : Int); omega
          have HA := hid (fun W => sub32_any (u : Int) (lo : Int) (b' : Int) W (by omega) (by omega) (by omega) (by omega) (by omega) (by omega))
          rw [← hd, ← he] at HA
          have HDE := hid hde
          have HLH := hid hlh
          clear hd he hde hlh hmb hlo hhi
          go_wp2_with fail
          refine Calls.mono (HA.out _) ?_
          rintro e' w3 ⟨rfl, rfl⟩
          clear HA e1 e2 elo
          go_wp2
          go_roundw
          case rel =>
            refine ⟨k + 1, hi, e, o'.set (off + k) d, by omega, by go_num, rfl, hhi', rfl, he1, hown'.set hko hd1', grow_set hgr _ _, fun j hj => ?_, ?_⟩
            · rw [← HO.out j (by omega)]
              simp [List.getD, List.getElem?_set, show ¬ off + k = j by omega]
            show limbsVal (((o'.set (off + k) d).drop off).take (k + 1)) + G * limbsVal (ds.take (k + 1)) = limbsVal ((o.drop off).take (k + 1)) + 4294967296 ^ (k + 1) * (e + hi)
            have h1 := HE.out
            rw [HTk.out, limbsVal_snoc, take_len (by omega), HT.out, take_succ_off (by have := Hol.out; omega), limbsVal_snoc, take_len (by have := Hol.out; omega), HUo.out, Nat.mul_add, Nat.pow_succ, Nat.mul_assoc, Nat.mul_left_comm G]
            have h2 : 4294967296 ^ k * d + 4294967296 ^ k * (G * v) + 4294967296 ^ k * (b' + c') = 4294967296 ^ k * u + 4294967296 ^ k * (4294967296 * (e + hi)) := by
              rw [← Nat.mul_add, ← Nat.mul_add, ← Nat.mul_add]
              congr 1
              have := HDE.out
              have := HLH.out
              omega
            omega
          case measure => simp [intOf]; omega
      have hkn : k = n := by omega
      have hko : off + n < o'.length := by omega
      have c1 := hown'.cell hko
      have c2 := hown'.frozen (off + n)
      obtain ⟨u, hu⟩ : ∃ u, u = o'[off + n] := ⟨_, rfl⟩
      have hu' : u < 4294967296 := by rw [hu]; exact hown'.2.1 _ (List.getElem_mem hko)
      have huo : o.getD (off + n) 0 = u := by rw [← HO.out (off + n) (.inr (by omega)), hu]; simp [List.getD, hko]
      rw [← hu] at c1
      clear hu
      obtain ⟨d, hd⟩ : ∃ d : Nat, (d : Int) = ((u : Int) - (c' : Int) - (b' : Int)) % 4294967296 := ⟨(((u : Int) - (c' : Int) - (b' : Int)) % 4294967296).toNat, by omega⟩
      obtain ⟨e, he⟩ : ∃ e : Nat, (e : Int) = borrowZ (u : Int) (c' : Int) (b' : Int) := ⟨(borrowZ (u : Int) (c' : Int) (b' : Int)).toNat, by have := borrowZ_bd (u : Int) (c' : Int) (b' : Int); omega⟩
      have hde : d + c' + b' = u + 4294967296 * e := by unfold borrowZ at he; split at he <;> omega
      have hd1' : d < 4294967296 := by omega
      have he1 : e ≤ 1 := by have := borrowZ_bd (u : Int) (c' : Int) (b' : Int); omega
      have HA := hid (fun W => sub32_any (u : Int) (c' : Int) (b' : Int) W (by omega) (by omega) (by omega) (by omega) (by omega) (by omega))
      rw [← hd, ← he] at HA
      have hds : ds.take k = ds := List.take_of_length_le (by have := Hdl.out; omega)
      have hfin : limbsVal (((o'.set (off + n) d).drop off).take (n + 1)) + G * D = U + 4294967296 ^ (n + 1) * e := by
        have h1 := HE.out
        rw [hds, ← HD.out, hkn] at h1
        rw [take_set_snoc hko, limbsVal_snoc, take_len (by omega), HUU.out, take_succ_off (by have := Hol.out; omega), limbsVal_snoc, take_len (by have := Hol.out; omega), huo, Nat.pow_succ, Nat.mul_assoc]
        have h2 : 4294967296 ^ n * d + 4294967296 ^ n * (b' + c') = 4294967296 ^ n * u + 4294967296 ^ n * (4294967296 * e) := by
          rw [← Nat.mul_add, ← Nat.mul_add]
          congr 1
          omega
        omega
      have hout : ∀ j, j < off ∨ off + n < j → (o'.set (off + n) d).getD j 0 = o.getD j 0 := fun j hj => by
        rw [← HO.out j (by omega)]
        simp [List.getD, List.getElem?_set, show ¬ off + n = j by omega]
      have hPlt : limbsVal (((o'.set (off + n) d).drop off).take (n + 1)) < 4294967296 ^ (n + 1) := by
        have hlen : (((o'.set (off + n) d).drop off).take (n + 1)).length = n + 1 := take_len (by simp; omega)
        have := limbsVal_lt (xs := ((o'.set (off + n) d).drop off).take (n + 1)) (fun x hx => (hown'.set hko hd1').2.1 x (List.mem_of_mem_drop (List.mem_of_mem_take hx)))
        rwa [hlen] at this
      have HF := hid hfin
      have HOut := hid hout
      have HP := hid hPlt
      have hown2 := hown'.set hko hd1'
      have hgr2 := grow_set hgr (off + n) (.int .u32 d)
      obtain ⟨o2, ho2⟩ : ∃ o2, o2 = o'.set (off + n) d := ⟨_, rfl⟩
      have hl2' : o2.length = N := by rw [ho2]; simp [hol']
      have HL2 := hid hl2'
      clear hl2'
      rw [← ho2] at HF HOut HP hown2
      clear hd he hde hfin hout hPlt hds huo hkn ho2 hown'
      have hq32 : U / D < 4294967296 := Nat.div_lt_of_lt_mul (by rw [Nat.mul_comm]; exact HU'.out)
      by_cases hez : e = 0
      · as_aux_lemma =>
          subst hez
          have h0 := HF.out
          rw [Nat.mul_zero, Nat.add_zero] at h0
          have HQ := hid (knuth_end0 hDpos H2.out h0)
          clear h0
          go_wp2_with fail
          refine Calls.mono (HA.out _) ?_
          rintro e' w3 ⟨rfl, rfl⟩
          clear HA
          go_wp2
          go_ret
          refine ⟨o2, ?_, hown2, HOut.out, HQ.out.2, hgr2⟩
          exact ret_int (by have := HQ.out.1; omega)
      as_aux_lemma =>
        have he1' : e = 1 := by omega
        subst he1'
        have h0 := HF.out
        rw [Nat.mul_one] at h0
        have HQ := hid (knuth_end1 hDpos H2.out HP.out h0)
        clear h0
        go_wp2_with fail
        refine Calls.mono (HA.out _) ?_
        rintro e' w3 ⟨rfl, rfl⟩
        clear HA hez
        go_wp2
        clear c1 c2 HO HE hgr
        go_loopw [14, 15, 16, 132] (fun c _ _ i wr => ∃ (k c' : Nat) (o' : List Nat), k ≤ n ∧ i = .int .i64 k ∧ c = .int .u32 c' ∧ c' ≤ 1 ∧ OwnL wr g N o' ∧ w.grownBy wr (some g) ∧ Hid (∀ j, (j < off ∨ off + k ≤ j) → o'.getD j 0 = o2.getD j 0) ∧
          Hid (limbsVal ((o'.drop off).take k) + 4294967296 ^ k * c' = limbsVal ((o2.drop off).take k) + limbsVal (ds.take k))) (fun _ _ _ i _ => n - (intOf i).toNat)
        case atStart => exact ⟨0, 0, o2, by omega, rfl, rfl, by omega, hown2, hgr2, fun j _ => rfl, by simp [Hid, limbsVal]⟩
        case round =>
          clear hown2 hgr2
          obtain ⟨k, c', o3, hk, rfl, rfl, hc', hown3, hgr3, HO3, HE3⟩ := hrel
          have hol3 := hown3.1
          by_cases hlt : k < n
          · as_aux_lemma =>
              have hlt' : k < ds.length := by have := Hdl.out; omega
              obtain ⟨f0, f1⟩ := x4.u32 hlt'
              rw [← grow_cell hgr3 (hS _ x4.1).1 (hS _ x4.1).2] at f0
              have HT := hid (limbsVal_take_succ ds k hlt')
              obtain ⟨v, hv⟩ : ∃ v, v = ds[k] := ⟨_, rfl⟩
              rw [← hv] at f0 f1 HT
              clear hv
              have hko : off + k < o3.length := by omega
              have c1 := hown3.cell hko
              have c2 := hown3.frozen (off + k)
              obtain ⟨x, hx⟩ : ∃ x, x = o3[off + k] := ⟨_, rfl⟩
              have hx' : x < 4294967296 := by rw [hx]; exact hown3.2.1 _ (List.getElem_mem hko)
              have HXo := hid (show o2.getD (off + k) 0 = x by rw [← HO3.out (off + k) (.inr (by omega)), hx]; simp [List.getD, hko])
              rw [← hx] at c1
              clear hx
              have HTk := hid (fun d => take_set_snoc (o := o3) (off := off) (k := k) (d := d) hko)
              obtain ⟨d, hd⟩ : ∃ d : Nat, (d : Int) = ((x : Int) + (v : Int) + (c' : Int)) % 4294967296 := ⟨((x + v + c') % 4294967296), by omega⟩
              obtain ⟨e, he⟩ : ∃ e : Nat, (e : Int) = ((x : Int) + (v : Int) + (c' : Int)) / 4294967296 := ⟨((x + v + c') / 4294967296), by omega⟩
              have hde : d + 4294967296 * e = x + v + c' := by omega
              have hd1' : d < 4294967296 := by omega
              have he1 : e ≤ 1 := by omega
              have HA := hid (fun W => add32_any (x : Int) (v : Int) (c' : Int) W (by omega) (by omega) (by omega) (by omega) (by omega) (by omega))
              rw [← hd, ← he] at HA
              have HDE := hid hde
              clear hd he hde
              go_wp2_with fail
              refine Calls.mono (HA.out _) ?_
              rintro e' w3 ⟨rfl, rfl⟩
              clear HA
              go_wp2
              go_roundw
              case rel =>
                have hl2 : o2.length = o3.length := by
                  have := HP.out
                  exact HL2.out.trans hol3.symm
                refine ⟨k + 1, e, o3.set (off + k) d, by omega, by go_num, rfl, he1, hown3.set hko hd1', grow_set hgr3 _ _, fun j hj => ?_, ?_⟩
                · rw [← HO3.out j (by omega)]
                  simp [List.getD, List.getElem?_set, show ¬ off + k = j by omega]
                show limbsVal (((o3.set (off + k) d).drop off).take (k + 1)) + 4294967296 ^ (k + 1) * e = limbsVal ((o2.drop off).take (k + 1)) + limbsVal (ds.take (k + 1))
                have h1 := HE3.out
                rw [HTk.out, limbsVal_snoc, take_len (by omega), HT.out, take_succ_off (by omega), limbsVal_snoc, take_len (by omega), HXo.out, Nat.pow_succ, Nat.mul_assoc]
                have h2 : 4294967296 ^ k * d + 4294967296 ^ k * (4294967296 * e) = 4294967296 ^ k * x + 4294967296 ^ k * v + 4294967296 ^ k * c' := by
                  rw [← Nat.mul_add, HDE.out, Nat.mul_add, Nat.mul_add]
                omega
              case measure => simp [intOf]; omega
          as_aux_lemma =>
            have hkn : k = n := by omega
            have hl2 : o2.length = o3.length := HL2.out.trans hol3.symm
            have hko : off + n < o3.length := by omega
            have c1 := hown3.cell hko
            have c2 := hown3.frozen (off + n)
            obtain ⟨x, hx⟩ : ∃ x, x = o3[off + n] := ⟨_, rfl⟩
            have hx' : x < 4294967296 := by rw [hx]; exact hown3.2.1 _ (List.getElem_mem hko)
            have hxo : o2.getD (off + n) 0 = x := by rw [← HO3.out (off + n) (.inr (by omega)), hx]; simp [List.getD, hko]
            rw [← hx] at c1
            clear hx
            obtain ⟨d, hd⟩ : ∃ d : Nat, d = (x + c') % 4294967296 := ⟨_, rfl⟩
            obtain ⟨e, he⟩ : ∃ e : Nat, e = (x + c') / 4294967296 := ⟨_, rfl⟩
            have hde : d + 4294967296 * e = x + c' := by omega
            have hd1' : d < 4294967296 := by omega
            have hdi : ((x : Int) + (c' : Int)) % 4294967296 = (d : Int) := by omega
            have hds : ds.take k = ds := List.take_of_length_le (by have := Hdl.out; omega)
            have hDlt : D < 4294967296 ^ n := by
              have := limbsVal_lt hdlt.out
              rw [← HD.out, Hdl.out] at this
              exact this
            have hfin : limbsVal (((o3.set (off + n) d).drop off).take (n + 1)) = U % D := by
              have h1 := HE3.out
              rw [hds, ← HD.out, hkn] at h1
              have h3 := HQ.out.2
              rw [take_succ_off (by omega), limbsVal_snoc, take_len (by omega), hxo] at h3
              have hlt3 : limbsVal (((o3.set (off + n) d).drop off).take (n + 1)) < 4294967296 ^ (n + 1) := by
                have hlen : (((o3.set (off + n) d).drop off).take (n + 1)).length = n + 1 := take_len (by simp; omega)
                have := limbsVal_lt (xs := ((o3.set (off + n) d).drop off).take (n + 1)) (fun y hy => (hown3.set hko hd1').2.1 y (List.mem_of_mem_drop (List.mem_of_mem_take hy)))
                rwa [hlen] at this
              rw [take_set_snoc hko, limbsVal_snoc, take_len (by omega)] at hlt3 ⊢
              have h2 : 4294967296 ^ n * d + 4294967296 ^ n * (4294967296 * e) = 4294967296 ^ n * x + 4294967296 ^ n * c' := by
                rw [← Nat.mul_add, hde, Nat.mul_add]
              have h4 : U % D < 4294967296 ^ n := Nat.lt_trans (Nat.mod_lt _ hDpos) hDlt
              have h5 : 4294967296 ^ (n + 1) = 4294967296 ^ n * 4294967296 := by rw [Nat.pow_succ]
              have h6 : 4294967296 ^ n * (4294967296 * e) = 4294967296 ^ (n + 1) * e := by rw [h5, Nat.mul_assoc]
              have he01 : e = 0 ∨ e = 1 := by omega
              rcases he01 with h | h
              · subst h; omega
              subst h; omega
            have hout : ∀ j, j < off ∨ off + n < j → (o3.set (off + n) d).getD j 0 = o.getD j 0 := fun j hj => by
              rw [← HOut.out j hj, ← HO3.out j (by omega)]
              simp [List.getD, List.getElem?_set, show ¬ off + n = j by omega]
            have HF3 := hid hfin
            have HOut3 := hid hout
            have e1 : IntKind.u64.wrap ((G : Int) - 1) = ((G - 1 : Nat) : Int) := by
              have h0 : 1 ≤ G := by rw [HQ.out.1]; exact Nat.le_add_left 1 _
              have : (G : Int) - 1 = ((G - 1 : Nat) : Int) := by omega
              rw [this]; exact IntWalk.u64_in _ (by omega)
            have hR : Hid (((G - 1 : Nat) : Int) = ((U / D : Nat) : Int)) := by
              show ((G - 1 : Nat) : Int) = ((U / D : Nat) : Int)
              have : G - 1 = U / D := by rw [HQ.out.1]; rfl
              rw [this]
            clear he hde hfin hout hds hxo hkn hDlt hd hl2
            go_wp2
            go_ret
            exact ⟨o3.set (off + n) d, ret_int hR.out, hown3.set hko hd1', HOut3.out, HF3.out, grow_set hgr3 _ _⟩
theorem bitLen_log2 {t : Nat} (h0 : 0 < t) (h : t < 4294967296) : Lib.bitLen t = Nat.log2 t + 1 := by
 have h1 : 2 ^ Nat.log2 t ≤ t := Nat.log2_self_le (by omega)
 have h2 : t < 2 ^ (Nat.log2 t + 1) := Nat.lt_log2_self
 rw [Lib.bitLen_shift _ t h1 (by omega)]
 have : t / 2 ^ Nat.log2 t = 1 := by
  apply Nat.div_eq_of_lt_le
  ·omega
  rw [Nat.pow_succ] at h2; omega
 rw [this]
 have : Lib.bitLen 1 = 1 := by decide +kernel
 omega
theorem lead_shift {t s : Nat} (h0 : 0 < t) (h : t < 4294967296) (hs : s = 32 - Lib.bitLen t) : s < 32 ∧ 2147483648 ≤ t * 2 ^ s ∧ (t + 1) * 2 ^ s ≤ 4294967296 := by
 rw [bitLen_log2 h0 h] at hs
 have h1 : 2 ^ Nat.log2 t ≤ t := Nat.log2_self_le (by omega)
 have h2 : t < 2 ^ (Nat.log2 t + 1) := Nat.lt_log2_self
 have h3 : Nat.log2 t < 32 := (Nat.log2_lt (by omega)).2 (by omega)
 generalize Nat.log2 t = L at *
 refine ⟨by omega, ?_, ?_⟩
 ·have := Nat.mul_le_mul_right (2 ^ s) h1
  rw [← Nat.pow_add, show L + s = 31 by omega] at this
  simpa using this
 have := Nat.mul_le_mul_right (2 ^ s) (show t + 1 ≤ 2 ^ (L + 1) from h2)
 rw [← Nat.pow_add, show L + 1 + s = 32 by omega] at this
 simpa using this
theorem limbsOf_last {n : Nat} (h : n ≠ 0) : 0 < (limbsOf n).getD ((limbsOf n).length - 1) 0 := by
 have hp := limbsOf_len_pos (n := n) (by omega)
 rcases Nat.eq_zero_or_pos ((limbsOf n).getD ((limbsOf n).length - 1) 0) with h0 | h0
 ·exfalso
  have h1 := take_succ_getD (limbsOf n) ((limbsOf n).length - 1)
  rw [h0, Nat.mul_zero, show (limbsOf n).length - 1 + 1 = (limbsOf n).length by omega, List.take_of_length_le (Nat.le_refl _), limbsVal_limbsOf] at h1
  simp only [Nat.add_zero] at h1
  have h2 := limbsVal_lt (xs := (limbsOf n).take ((limbsOf n).length - 1)) (fun x hx => limbsOf_lt n x (List.mem_of_mem_take hx))
  rw [List.length_take, Nat.min_eq_left (by omega), ← h1] at h2
  have := limbsOf_len_le h2
  omega
 exact h0
theorem div_norm {y n t s : Nat} (hn : (limbsOf y).length = n) (hn1 : 1 ≤ n) (ht : t = (limbsOf y).getD (n - 1) 0) (hs : s = 32 - Lib.bitLen t) :
  s < 32 ∧ y * 2 ^ s < 4294967296 ^ n ∧ 4294967296 ^ (n - 1) * 2147483648 ≤ y * 2 ^ s := by
 have hy0 : y ≠ 0 := fun h => by subst h; rw [limbsOf_zero] at hn; simp at hn; omega
 have ht0 : 0 < t := by rw [ht, ← hn]; exact limbsOf_last hy0
 have htW : t < 4294967296 := by
  rw [ht]
  have hl : n - 1 < (limbsOf y).length := by omega
  simp only [List.getD, List.getElem?_eq_getElem hl, Option.getD_some]
  exact limbsOf_lt y _ (List.getElem_mem hl)
 obtain ⟨a, b, c⟩ := lead_shift ht0 htW hs
 have h1 := take_succ_getD (limbsOf y) (n - 1)
 rw [show n - 1 + 1 = n by omega, List.take_of_length_le (by omega), limbsVal_limbsOf, ← ht] at h1
 have h2 := limbsVal_lt (xs := (limbsOf y).take (n - 1)) (fun x hx => limbsOf_lt y x (List.mem_of_mem_take hx))
 rw [List.length_take, Nat.min_eq_left (by omega)] at h2
 have hP : 4294967296 ^ n = 4294967296 ^ (n - 1) * 4294967296 := by rw [← Nat.pow_succ]; congr 1; omega
 rw [hP]
 clear hP
 generalize 4294967296 ^ (n - 1) = P at *
 generalize limbsVal ((limbsOf y).take (n - 1)) = lo at *
 have hp := Nat.pow_pos (n := s) (show 0 < 2 by decide)
 generalize 2 ^ s = q at *
 refine ⟨a, ?_, ?_⟩
 ·have e1 : y < P * (t + 1) := by rw [Nat.mul_add]; omega
  calc y * q < P * (t + 1) * q := Nat.mul_lt_mul_of_pos_right e1 hp
   _ = P * ((t + 1) * q) := Nat.mul_assoc _ _ _
   _ ≤ P * 4294967296 := Nat.mul_le_mul_left _ c
 calc P * 2147483648 ≤ P * (t * q) := Nat.mul_le_mul_left _ b
  _ = P * t * q := (Nat.mul_assoc _ _ _).symm
  _ ≤ y * q := Nat.mul_le_mul_right _ (by omega)
theorem div_top {n D : Nat} (hn1 : 1 ≤ n) (h : 4294967296 ^ (n - 1) * 2147483648 ≤ D) {ds : List Nat} (hd : ds.length = n) (hlt : ∀ x ∈ ds, x < 4294967296) (hv : limbsVal ds = D) : 2147483648 ≤ ds.getD (n - 1) 0 := by
 have h1 := take_succ_getD ds (n - 1)
 rw [show n - 1 + 1 = n by omega, List.take_of_length_le (by omega), hv] at h1
 have h2 := limbsVal_lt (xs := ds.take (n - 1)) (fun x hx => hlt x (List.mem_of_mem_take hx))
 rw [List.length_take, Nat.min_eq_left (by omega)] at h2
 generalize 4294967296 ^ (n - 1) = P at *
 generalize ds.getD (n - 1) 0 = t at *
 generalize limbsVal (ds.take (n - 1)) = lo at *
 rcases Nat.lt_or_ge t 2147483648 with h3 | h3
 ·exfalso
  have := Nat.mul_le_mul_left P (show t + 1 ≤ 2147483648 from h3)
  rw [Nat.mul_add] at this
  omega
 exact h3
theorem div_start {X x m n s D : Nat} {ou : List Nat} (hx : x < 4294967296 ^ m) (hX : X = x * 2 ^ s) (hs : s < 32) (hn1 : 1 ≤ n) (hnm : n ≤ m) (hD : 4294967296 ^ (n - 1) * 2147483648 ≤ D) (hl : ou.length = m + 1) (hlt : ∀ x ∈ ou, x < 4294967296) (hv : limbsVal ou = X) :
  limbsVal (ou.drop (m - n + 1)) < D := by
 have h1 := limbsVal_split ou (m - n + 1) (by omega)
 have hp := pow2_lt hs
 have e : 4294967296 ^ m = 4294967296 ^ (m - n + 1) * 4294967296 ^ (n - 1) := by rw [← Nat.pow_add]; congr 1; omega
 have hP := ww_pos (m - n + 1)
 rw [e] at hx
 rw [hv, hX] at h1
 clear e
 generalize 4294967296 ^ (m - n + 1) = P at *
 generalize 4294967296 ^ (n - 1) = R at *
 generalize limbsVal (ou.drop (m - n + 1)) = d at *
 have h2 : x * 2 ^ s < P * R * 2 ^ s := Nat.mul_lt_mul_of_pos_right hx (Nat.pow_pos (by decide))
 have h3 : P * R * 2 ^ s ≤ P * R * 2147483648 := Nat.mul_le_mul_left _ hp
 have h4 : P * d < P * (R * 2147483648) := by rw [← Nat.mul_assoc]; omega
 exact Nat.lt_of_lt_of_le (Nat.lt_of_mul_lt_mul_left h4) hD
theorem drop_zero {o : List Nat} {n : Nat} (hn : n ≤ o.length) (h : limbsVal o < 4294967296 ^ n) : limbsVal (o.drop n) = 0 ∧ limbsVal (o.take n) = limbsVal o := by
 have h1 := limbsVal_split o n hn
 rcases Nat.eq_zero_or_pos (limbsVal (o.drop n)) with h0 | h0
 ·rw [h0, Nat.mul_zero] at h1
  exact ⟨h0, by omega⟩
 have := Nat.mul_le_mul_left (4294967296 ^ n) h0
 rw [Nat.mul_one] at this
 omega
theorem div_window {ou : List Nat} {n D N k : Nat} (hl : ou.length = N) (hk : k + 1 + n ≤ N) (hlt : ∀ x ∈ ou, x < 4294967296) (hD : D < 4294967296 ^ n) (hi : limbsVal (ou.drop (k + 1)) < D) :
  limbsVal ((ou.drop k).take (n + 1)) = limbsVal (ou.drop k) ∧ limbsVal (ou.drop (k + n + 1)) = 0 ∧ limbsVal (ou.drop k) < 4294967296 * D := by
 have e1 : (ou.drop (k + 1)).drop n = ou.drop (k + n + 1) := by rw [List.drop_drop]; congr 1; omega
 have h1 := drop_zero (o := ou.drop (k + 1)) (n := n) (by simp; omega) (by omega)
 rw [e1] at h1
 have e2 : (ou.drop k).drop (n + 1) = ou.drop (k + n + 1) := by rw [List.drop_drop]; rfl
 have h2 := limbsVal_split (ou.drop k) (n + 1) (by simp; omega)
 rw [e2, h1.1, Nat.mul_zero] at h2
 refine ⟨by omega, h1.1, ?_⟩
 have hk' : k < ou.length := by omega
 have h3 : ou.drop k = ou[k] :: ou.drop (k + 1) := List.drop_eq_getElem_cons hk'
 have h4 := hlt _ (List.getElem_mem hk')
 rw [h3]
 show ou[k] + 4294967296 * limbsVal (ou.drop (k + 1)) < _
 generalize limbsVal (ou.drop (k + 1)) = d at *
 omega
theorem drop_eq_of {o o' : List Nat} {k : Nat} (hl : o.length = o'.length) (h : ∀ j, k ≤ j → o'.getD j 0 = o.getD j 0) : o'.drop k = o.drop k := by
 apply List.ext_getElem?
 intro i
 simp only [List.getElem?_drop]
 have := h (k + i) (by omega)
 simp only [List.getD] at this
 rcases Nat.lt_or_ge (k + i) o.length with h1 | h1
 ·rw [List.getElem?_eq_getElem h1, List.getElem?_eq_getElem (by omega : k + i < o'.length)] at this ⊢
  simpa using this
 rw [List.getElem?_eq_none h1, List.getElem?_eq_none (by omega : o'.length ≤ k + i)]
theorem take_eq_of {o o' : List Nat} {k : Nat} (hl : o.length = o'.length) (h : ∀ j, j < k → o'.getD j 0 = o.getD j 0) : o'.take k = o.take k := by
 apply List.ext_getElem?
 intro i
 simp only [List.getElem?_take]
 split
 ·rename_i hi
  have := h i hi
  simp only [List.getD] at this
  rcases Nat.lt_or_ge i o.length with h1 | h1
  ·rw [List.getElem?_eq_getElem h1, List.getElem?_eq_getElem (by omega : i < o'.length)] at this ⊢
   simpa using this
  rw [List.getElem?_eq_none h1, List.getElem?_eq_none (by omega : o'.length ≤ i)]
 rfl
theorem div_round {X D N Nq n k : Nat} {ou ou' oq : List Nat} (hl : ou.length = N) (hl' : ou'.length = N) (hq : oq.length = Nq) (hkq : k < Nq) (hk : k + 1 + n ≤ N) (hlt : ∀ x ∈ ou, x < 4294967296) (hD : D < 4294967296 ^ n) (hD0 : 0 < D)
  (hi : limbsVal (ou.drop (k + 1)) < D) (hX : X = limbsVal (oq.drop (k + 1)) * 4294967296 ^ (k + 1) * D + limbsVal ou) (hout : ∀ j, j < k ∨ k + n < j → ou'.getD j 0 = ou.getD j 0) (hw : limbsVal ((ou'.drop k).take (n + 1)) = limbsVal ((ou.drop k).take (n + 1)) % D) :
  limbsVal (ou'.drop k) < D ∧ X = limbsVal ((oq.set k (limbsVal ((ou.drop k).take (n + 1)) / D)).drop k) * 4294967296 ^ k * D + limbsVal ou' := by
 obtain ⟨w1, w2, w3⟩ := div_window hl hk hlt hD hi
 rw [w1] at hw ⊢
 have e1 : ou'.drop (k + n + 1) = ou.drop (k + n + 1) := drop_eq_of (by omega) fun j hj => hout j (.inr (by omega))
 have e2 : ou'.take k = ou.take k := take_eq_of (by omega) fun j hj => hout j (.inl hj)
 have e3 : (ou'.drop k).drop (n + 1) = ou'.drop (k + n + 1) := by rw [List.drop_drop]; rfl
 have h2 := limbsVal_split (ou'.drop k) (n + 1) (by simp; omega)
 rw [e3, e1, w2, Nat.mul_zero, hw] at h2
 have hd' : limbsVal (ou'.drop k) = limbsVal (ou.drop k) % D := by omega
 have h3 := limbsVal_split ou k (by omega)
 have h4 := limbsVal_split ou' k (by omega)
 rw [e2, hd'] at h4
 have h5 : ((oq.set k (limbsVal (ou.drop k) / D)).drop k) = (limbsVal (ou.drop k) / D) :: oq.drop (k + 1) := by
  rw [List.drop_eq_getElem_cons (by simp; omega)]
  congr 1
  ·simp
  rw [List.drop_set_of_lt (by omega)]
 rw [h5]
 have hmod := Nat.mod_lt (limbsVal (ou.drop k)) hD0
 have hdm := Nat.div_add_mod (limbsVal (ou.drop k)) D
 refine ⟨by omega, ?_⟩
 show X = (limbsVal (ou.drop k) / D + 4294967296 * limbsVal (oq.drop (k + 1))) * _ * D + _
 rw [hX, h3, h4, Nat.pow_succ]
 generalize limbsVal (ou.drop k) / D = q at *
 generalize limbsVal (ou.drop k) % D = r at *
 rw [← hdm]
 generalize limbsVal (ou.take k) = lo
 generalize limbsVal (oq.drop (k + 1)) = Q
 generalize 4294967296 ^ k = P
 generalize 4294967296 = W
 simp only [Nat.add_mul, Nat.mul_add]
 simp only [Nat.mul_comm, Nat.mul_left_comm]
 omega
theorem div_end {x y s Q R : Nat} (hy : 0 < y) (h : x * 2 ^ s = Q * 4294967296 ^ 0 * (y * 2 ^ s) + R) (hR : R < y * 2 ^ s) : Q = x / y ∧ R / 2 ^ s = x % y := by
 have hp := Nat.pow_pos (n := s) (show 0 < 2 by decide)
 rw [Nat.pow_zero, Nat.mul_one] at h
 have h1 : x * 2 ^ s / (y * 2 ^ s) = x / y := Nat.mul_div_mul_right _ _ hp
 have h2 : x * 2 ^ s % (y * 2 ^ s) = x % y * 2 ^ s := Nat.mul_mod_mul_right _ _ _
 have h3 : x * 2 ^ s / (y * 2 ^ s) = Q := by
  apply Nat.div_eq_of_lt_le
  ·omega
  rw [Nat.add_mul]; omega
 have h4 : x * 2 ^ s % (y * 2 ^ s) = R := by
  have := Nat.div_add_mod (x * 2 ^ s) (y * 2 ^ s)
  rw [h3, Nat.mul_comm (y * 2 ^ s) Q] at this
  omega
 refine ⟨by omega, ?_⟩
 rw [← h4, h2]
 exact Nat.mul_div_cancel _ hp
theorem OwnL.sliceS {w : World} {g n : Nat} {o : List Nat} (h : OwnL w g n o) (hn : n ≤ 9223372036854775807) {S : Nat → Prop} (hS : S g) : rSlice 1 rU32 w S [.slice (some ⟨g, 0, none⟩) n n] o := by
 obtain ⟨h1, h2, f, h3, h4⟩ := h
 refine ⟨some ⟨g, 0, none⟩, n, by rw [h1], by omega, by unfold maxLen; omega, by simp, .inr ⟨g, 0, rfl, hS, fun j hj => ⟨[f j], rfl, ?_, ?_⟩⟩⟩
 ·intro c hc
  obtain rfl : c = 0 := by simp at hc; omega
  simpa using h3.cell (by omega)
 refine ⟨?_, h2 _ (List.getElem_mem hj)⟩
 rw [h4 j]
 simp [List.getD, hj]
theorem OwnL.take {w : World} {g n k : Nat} {o : List Nat} (h : OwnL w g n o) (hk : k ≤ n) (hn : n ≤ 9223372036854775807) {S : Nat → Prop} (hS : S g) : rSlice 1 rU32 w S [.slice (some ⟨g, 0, none⟩) k n] (o.take k) := by
 obtain ⟨h1, h2, f, h3, h4⟩ := h
 have hl : (o.take k).length = k := by simp; omega
 refine ⟨some ⟨g, 0, none⟩, n, by rw [hl], by omega, by unfold maxLen; omega, by simp, .inr ⟨g, 0, rfl, hS, fun j hj => ⟨[f j], rfl, ?_, ?_⟩⟩⟩
 ·intro c hc
  obtain rfl : c = 0 := by simp at hc; omega
  simpa using h3.cell (by omega)
 rw [List.getElem_take]
 refine ⟨?_, h2 _ (List.getElem_mem (by omega))⟩
 rw [h4 j]
 simp [List.getD, show j < o.length by omega]
theorem OwnL.grown {w w' : World} {g gu n : Nat} {o : List Nat} (h : OwnL w g n o) (hg : w.grownBy w' (some gu)) (hne : g ≠ gu) : OwnL w' g n o := by
 obtain ⟨h1, h2, f, h3, h4⟩ := h
 have hlt := h3.lt
 refine ⟨h1, h2, f, ?_, h4⟩
 unfold Own at *
 rw [hg.block g hlt (fun e => hne (Option.some.inj e))]; exact h3
theorem OwnL.other {w : World} {g g' n : Nat} {o : List Nat} (h : OwnL w g n o) (hne : g' ≠ g) (p : Nat) (v : Value) : OwnL (w.setCell ⟨g', p, none⟩ v) g n o := ⟨h.1, h.2.1, _, h.2.2.choose_spec.1.other hne p v, h.2.2.choose_spec.2⟩
theorem OwnL.alloc {w : World} {g n : Nat} {o : List Nat} (h : OwnL w g n o) (b : Obj) : OwnL (w.alloc b) g n o := ⟨h.1, h.2.1, _, h.2.2.choose_spec.1.alloc b, h.2.2.choose_spec.2⟩
theorem grown_below {w w' : World} {B g : Nat} (h : w.grownBy w' (some g)) (hg : B ≤ g) (hB : B ≤ w.heap.size) : Below B w w' :=
 ⟨h.os, h.tape, h.output, h.size, fun b hb => h.block b (by omega) (fun e => by have := Option.some.inj e; omega)⟩
set_option maxRecDepth 100000 in
set_option maxHeartbeats 2000000 in
theorem divide_long (S : Nat → Prop) (u v : Value) (x y : Nat) (w : World) (hS : ∀ b, S b → b < w.heap.size) (hl : (limbsOf x).length ≤ 999999999999) (hxy : y ≤ x) (hy2 : 2 ≤ (limbsOf y).length) (hu : rSlice 1 rU32 w S [u] (limbsOf x)) (hv : rSlice 1 rU32 w S [v] (limbsOf y)) :
    Calls Tryz.prog 174 #[u, v] w fun e w' => ∃ q r, e = .returned (.tuple #[q, r]) ∧ rSlice 1 rU32 w' (LT w'.heap.size) [q] (limbsOf (x / y)) ∧ rSlice 1 rU32 w' (LT w'.heap.size) [r] (limbsOf (x % y)) ∧ Below w.heap.size w w' := by
  have hc := compare_any S u v x y w hS hu hv
  have hcn : ¬ natCmp x y < 0 := by unfold natCmp; rw [if_neg (by omega)]; split <;> omega
  have HC := hid hc
  clear hc
  have hnm : (limbsOf y).length ≤ (limbsOf x).length := by
    apply limbsOf_len_le
    have := limbsVal_lt (limbsOf_lt x)
    rw [limbsVal_limbsOf] at this
    omega
  have hu' := hid hu
  have hv' := hid hv
  have hUU := fun (w' : World) (hb : Below w.heap.size w w') => (stays_rSlice stays_rU32) _ _ _ _ _ _ hu (fun b h => hb.block b (hS b h)) fun b h => Nat.lt_of_lt_of_le (hS b h) hb.size
  have hVV := fun (w' : World) (hb : Below w.heap.size w w') => (stays_rSlice stays_rU32) _ _ _ _ _ _ hv (fun b h => hb.block b (hS b h)) fun b h => Nat.lt_of_lt_of_le (hS b h) hb.size
  have HU := hid hUU
  have HV := hid hVV
  clear hUU hVV
  have hxW : x < 4294967296 ^ (limbsOf x).length := by
    have := limbsVal_lt (limbsOf_lt x)
    rwa [limbsVal_limbsOf] at this
  obtain ⟨xa, xc, rfl, x1, x2, x3, x4⟩ := u32s_open hu
  obtain ⟨ya, yc, rfl, y1, y2, y3, y4⟩ := u32s_open hv
  obtain ⟨n, hn⟩ : ∃ n, n = (limbsOf y).length := ⟨_, rfl⟩
  obtain ⟨m, hm⟩ : ∃ m, m = (limbsOf x).length := ⟨_, rfl⟩
  rw [← hm] at hxW hl hnm
  rw [← hn] at hnm hy2
  rcases y4 with y4 | ⟨vb, voff, rfl, y4⟩
  · rw [y4] at hn; simp at hn; omega
  have hn1 : n - 1 < (limbsOf y).length := by omega
  have g0 := (y4.u32 hn1).1
  have hvS := hS vb y4.1
  have htW : (limbsOf y)[n - 1] < 4294967296 := limbsOf_lt y _ (List.getElem_mem hn1)
  obtain ⟨t, ht⟩ : ∃ t, t = (limbsOf y)[n - 1] := ⟨_, rfl⟩
  rw [← ht] at g0 htW
  have htD : t = (limbsOf y).getD (n - 1) 0 := by rw [ht]; simp [List.getD, hn1]
  obtain ⟨s, hs⟩ : ∃ s, s = 32 - Lib.bitLen t := ⟨_, rfl⟩
  obtain ⟨hs32, hD1, hD2⟩ := div_norm hn.symm (by omega) htD hs
  have hy0 : 0 < y := by
    rcases Nat.eq_zero_or_pos y with h | h
    · rw [h, limbsOf_zero] at hn; simp at hn; omega
    exact h
  have hbl : Lib.bitLen t ≤ 32 := Lib.bitLen_le t 32 (by decide) htW
  have HLZ : Hid (∀ w : World, Calls Tryz.prog 213 #[.int .u32 t] w fun e w' => e = .returned (.int .i64 (s : Int)) ∧ w' = w) := fun w => by
    have := Tryz.bits_LeadingZeros32 t w (by omega) (by omega)
    rw [show ((t : Nat) : Int).toNat = t by omega] at this
    rwa [show (32 - (Lib.bitLen t : Int)) = (s : Int) by omega] at this
  have hmk := fun (w : World) => make_one (P := Tryz.prog) Tryz.underlying204 Tryz.infoU32 rfl w (m - n + 1) (by omega) (by omega)
  have hX1 : x * 2 ^ s < 4294967296 ^ (m + 1) := by
    have := pow2_lt hs32
    rw [Nat.pow_succ]
    calc x * 2 ^ s < 4294967296 ^ m * 2 ^ s := Nat.mul_lt_mul_of_pos_right hxW (Nat.pow_pos (by decide))
      _ ≤ _ := Nat.mul_le_mul_left _ (by omega)
  have HN := hid (show _ ∧ _ ∧ _ ∧ _ from ⟨hD1, hD2, hX1, hxW⟩)
  clear hD1 hD2 hX1 hxW htD hs hbl hu hv
  rw [← hn] at y1
  rw [← hm] at x1
  have HMN := hid (show _ ∧ _ from ⟨hm, hn⟩)
  obtain ⟨rr, hrr⟩ : ∃ r, r = m - n := ⟨_, rfl⟩
  obtain ⟨Q, hQ⟩ : ∃ r, r = m - n + 1 := ⟨_, rfl⟩
  obtain ⟨m1, hm1⟩ : ∃ r, r = m + 1 := ⟨_, rfl⟩
  simp only [← hQ] at hmk
  have hmn1 : ((m : Int) - (n : Int)) = (rr : Int) := by omega
  have hmn2 : ((rr : Int) + 1) = (Q : Int) := by omega
  have hmn3 : ((Q : Int) - 1) = (rr : Int) := by omega
  have hm1' : ((m : Int) + 1) = (m1 : Int) := by omega
  have hnn1 : ((n : Int) - 1) = ((n - 1 : Nat) : Int) := by omega
  rw [← hn] at HC hv' HV ⊢
  rw [← hm] at HC hu' HU ⊢
  have hm1b : m1 ≤ 1000000000000 := by omega
  have hQb : Q ≤ 1000000000000 := by omega
  have HM1 := hid hm1
  have HQ := hid hQ
  clear hm1 hQ hrr
  have hne1 : ¬ ((n : Int) = 1) := by omega
  clear ht hm hn y4 x4 hv' hu'
  go_enter Tryz.func174, Tryz.ntmps174
  go_wp2_with fail
  refine Calls.mono HC.out ?_
  rintro e w1 ⟨rfl, hb1⟩
  rw [← hb1.cell (p := ⟨vb, voff + (n - 1), none⟩) hvS] at g0
  go_wp2_with fail
  refine Calls.mono (HLZ.out _) ?_
  rintro e w2 ⟨rfl, rfl⟩
  go_wp2_with fail
  have hS1 := shift_any _ _ _ s n w2 (fun _ h => h) (by omega) hs32 (by rw [← HMN.out.2]; exact Nat.le_refl _) (by rw [limbsVal_limbsOf]; exact HN.out.1) (HV.out w2 hb1)
  rw [limbsVal_limbsOf] at hS1
  have HS1 := hid hS1
  clear hS1
  refine Calls.mono HS1.out ?_
  rintro e w3 ⟨gd, ds, rfl, hgd, hod, hdv, hb3⟩
  have HDV := hid hdv
  clear hdv
  have hb13 := hb1.step hb3
  go_wp2_with fail
  have hS2 := shift_any _ _ _ s m1 w3 (fun _ h => h) (by omega) hs32 (by rw [← HMN.out.1]; have := HM1.out; omega) (by rw [limbsVal_limbsOf, HM1.out]; exact HN.out.2.2.1) (HU.out w3 hb13)
  rw [limbsVal_limbsOf] at hS2
  have HS2 := hid hS2
  clear hS2
  refine Calls.mono HS2.out ?_
  rintro e w4 ⟨gu, ou, rfl, hgu, hou, huv, hb4⟩
  have HUV := hid huv
  clear huv
  have hgd3 := hod.lt
  have hod4 := hod.below hb4 hgd3
  have hgdu : gd ≠ gu := by omega
  have hgu4 := hou.lt
  have hb14 := hb13.step hb4
  clear HS1 HS2 HC
  go_wp2
  clear hmk
  have HQ' := hid (show Q + n = m1 by have := HQ.out; have := HM1.out; omega)
  have hrq : rr + 1 = Q := by omega
  have hD0 : 0 < y * 2 ^ s := Nat.mul_pos hy0 (Nat.pow_pos (by decide))
  have HD0 := hid hD0
  have hqu : w4.heap.size ≠ gu := by omega
  have hqd : w4.heap.size ≠ gd := by omega
  have hwq : w.heap.size ≤ w4.heap.size := hb14.size
  have hwu : w.heap.size ≤ gu := by have := hb13.size; omega
  clear hD0
  go_loopw [13] (fun i wr => ∃ (k : Nat) (ou oq : List Nat), k ≤ Q ∧ i = .int .i64 ((k : Int) - 1) ∧ Below w.heap.size w wr ∧ OwnL wr gd n ds ∧ OwnL wr gu m1 ou ∧ OwnL wr w4.heap.size Q oq ∧
      Hid (limbsVal (ou.drop k) < y * 2 ^ s) ∧ Hid (x * 2 ^ s = limbsVal (oq.drop k) * 4294967296 ^ k * (y * 2 ^ s) + limbsVal ou)) (fun i _ => (intOf i + 1).toNat)
  case atStart =>
    refine ⟨Q, ou, _, Nat.le_refl _, by rw [hmn3], hb14.alloc hwq _, hod4.alloc _, hou.alloc _, OwnL.new _ _, ?_, ?_⟩
    · show limbsVal (ou.drop Q) < _
      rw [HQ.out]
      exact div_start HN.out.2.2.2 rfl hs32 (by omega) hnm HN.out.2.1 (by rw [hou.1]; exact HM1.out) hou.2.1 HUV.out
    show x * 2 ^ s = _
    rw [HUV.out, List.drop_of_length_le (by simp)]
    simp [limbsVal]
  case round =>
    obtain ⟨k, o, oq, hk, rfl, hbw, hod', hou', hoq', HI, HX⟩ := hrel
    cases k with
    | zero =>
      have hx1 := HX.out
      have hx2 := HI.out
      rw [List.drop_zero] at hx1 hx2
      obtain ⟨hq1, hr1⟩ := div_end hy0 hx1 hx2
      have htk := drop_zero (o := o) (n := n) (by rw [hou'.1]; omega) (Nat.lt_trans hx2 HN.out.1)
      have hT : Hid (∀ wr' : World, OwnL wr' w4.heap.size Q oq → Calls Tryz.prog 171 #[.slice (some ⟨w4.heap.size, 0, none⟩) Q Q] wr' fun e w' => ∃ r, e = .returned r ∧ wr' = w' ∧ rSlice 1 rU32 wr' (LT wr'.heap.size) [r] (limbsOf (x / y))) := fun wr' h => by
        have := trim_any _ _ _ _ (h.slice (by omega))
        rw [hq1] at this
        exact this
      have hU : Hid (∀ wr' : World, OwnL wr' gu m1 o → Calls Tryz.prog 216 #[.slice (some ⟨gu, 0, none⟩) n m1, .int .u64 s] wr' fun e w' => ∃ r, e = .returned r ∧ rSlice 1 rU32 w' (LT w'.heap.size) [r] (limbsOf (x % y)) ∧ Below wr'.heap.size wr' w') := fun wr' h => by
        have := unshift_any (LT wr'.heap.size) _ (o.take n) s wr' (fun _ h => h) (by simp; omega) hs32 (h.take (by omega) (by omega) h.lt)
        rw [htk.2, hr1] at this
        exact this
      have hnm1 : n ≤ m1 := by omega
      clear hx1 hx2 hq1 hr1 htk
      go_wp2_with fail
      go_region_with (first
        | (go_at_call 171; refine Calls.mono (hT.out _ ?h1) ?_; exact hoq'; rintro e w5 ⟨q, rfl, rfl, hq⟩)
        | (go_at_call 216; refine Calls.mono (hU.out _ ?h2) ?_; exact hou'; rintro e w6 ⟨r, rfl, hr, hb6⟩))
      all_goals (try go_wp2)
      go_ret2
      exact ⟨_, _, rfl, (stays_rSlice stays_rU32).below hq hb6 hb6.size, hr, Below.step (a := wr.drew) (Below.drew hbw) hb6⟩
    | succ k =>
      rw [show (((k + 1 : Nat) : Int) - 1) = (k : Int) by omega]
      have HST := hid (fun cap (hc : n + 1 ≤ cap) => step_any (· = gd) _ ds o gu k m1 cap n wr (fun b hb => by subst hb; exact ⟨hod'.lt, hgdu⟩) (by omega) hy2 hod'.1 (by have := HQ'.out; omega) hc (hod'.sliceS (by omega) rfl) hou' (div_top (by omega) HN.out.2.1 hod'.1 hod'.2.1 HDV.out) (by
        rw [HDV.out]
        have := div_window (k := k) hou'.1 (by have := HQ'.out; omega) hou'.2.1 HN.out.1 HI.out
        rw [this.1]; exact this.2.2))
      have hkQ : k < Q := by omega
      have hkm : k + n < m1 := by have := HQ'.out; omega
      go_wp2_with fail
      rw [show k + n + 1 - k = n + 1 by omega]
      refine Calls.mono (HST.out _ ?hcap) ?_
      case hcap => omega
      rintro e wn ⟨o', rfl, hon, hout, hwin, hgr⟩
      obtain ⟨hr1, hr2⟩ := div_round hou'.1 hon.1 hoq'.1 hkQ (by have := HQ'.out; omega) hou'.2.1 HN.out.1 HD0.out HI.out HX.out hout (by rw [← HDV.out]; exact hwin)
      have hdn := hod'.grown hgr hgdu
      have hqn := hoq'.grown hgr hqu
      have hbn : Below w.heap.size wr wn := grown_below hgr hwu hbw.size
      have hko : k < oq.length := by rw [hoq'.1]; exact hkQ
      have c1 := hqn.cell hko
      have c2 := hqn.frozen k
      obtain ⟨d, hd⟩ : ∃ d, d = limbsVal ((o.drop k).take (n + 1)) / limbsVal ds := ⟨_, rfl⟩
      have hdW : d < 4294967296 := by
        rw [hd, HDV.out]
        have := div_window (k := k) hou'.1 (by have := HQ'.out; omega) hou'.2.1 HN.out.1 HI.out
        rw [this.1]
        exact Nat.div_lt_of_lt_mul (by rw [Nat.mul_comm]; exact this.2.2)
      rw [← HDV.out, ← hd] at hr2
      rw [← hd]
      have HR1 := hid hr1
      have HR2 := hid hr2
      clear hr1 hr2 hout hwin hd HST
      go_wp2
      go_roundw
      case rel =>
        refine ⟨k, o', oq.set k d, by omega, rfl, (hbw.trans hbn).setCell hwq _, hdn.other hqd _ _, hon.other hqu _ _, hqn.set hko hdW, HR1.out, ?_⟩
        rw [HDV.out] at HR2
        exact HR2.out
      case measure => simp [intOf]
theorem lead_search {t s S0 : Nat} (h0 : 0 < t) (ht : t < 4294967296) (hS : S0 = 32 - Lib.bitLen t) (hs : s ≤ S0) : t * 2 ^ s < 4294967296 ∧ (s < S0 → t * 2 ^ s < 2147483648) ∧ (s = S0 → 2147483648 ≤ t * 2 ^ s) := by
 obtain ⟨a, b, c⟩ := lead_shift h0 ht hS
 have h1 : t * 2 ^ S0 < 4294967296 := by
  rw [Nat.add_mul] at c
  have := Nat.pow_pos (n := S0) (show 0 < 2 by decide)
  omega
 have h2 : t * 2 ^ s ≤ t * 2 ^ S0 := Nat.mul_le_mul_left _ (Nat.pow_le_pow_right (by decide) hs)
 refine ⟨by omega, fun h => ?_, fun h => by subst h; exact b⟩
 have h3 : t * 2 ^ (s + 1) ≤ t * 2 ^ S0 := Nat.mul_le_mul_left _ (Nat.pow_le_pow_right (by decide) h)
 rw [Nat.pow_succ, ← Nat.mul_assoc] at h3
 omega
theorem step_pre {ds o : List Nat} {off n N D U un u1 u2 dt d2 : Nat} (hn2 : 2 ≤ n) (hdl : ds.length = n) (ho : o.length = N) (hoff : off + n < N) (hdlt : ∀ x ∈ ds, x < 4294967296) (holt : ∀ x ∈ o, x < 4294967296)
  (hD : D = limbsVal ds) (hU : U = limbsVal ((o.drop off).take (n + 1))) (hUD : U < 4294967296 * D) (hun : un = o[off + n]'(by omega)) (hu1 : u1 = o[off + (n - 1)]'(by omega)) (hu2 : u2 = o[off + (n - 2)]'(by omega))
  (hdt : dt = ds[n - 1]'(by omega)) (hd2 : d2 = ds[n - 2]'(by omega)) (htop : 2147483648 ≤ dt) :
  ∃ G0 R0, (un * 4294967296 + u1) / dt = G0 ∧ (un * 4294967296 + u1) % dt = R0 ∧ G0 * dt + R0 = un * 4294967296 + u1 ∧ R0 < dt ∧ G0 ≤ 4294967297 ∧ U < (G0 + 1) * D ∧ 0 < D ∧
   (∀ G R, G * dt + R = un * 4294967296 + u1 → R * 4294967296 + u2 < G * d2 → U < G * D) ∧
   (∀ G R, G * dt + R = un * 4294967296 + u1 → G * d2 ≤ R * 4294967296 + u2 → G ≤ 4294967296 → G * D ≤ U + D) := by
 have hw0 : off + n < o.length := by omega
 have hw1 : off + (n - 1) < o.length := by omega
 have hw2 : off + (n - 2) < o.length := by omega
 have hd1 : n - 1 < ds.length := by omega
 have hd2l : n - 2 < ds.length := by omega
 have l1 : u1 < 4294967296 := by rw [hu1]; exact holt _ (List.getElem_mem hw1)
 have l2 : u2 < 4294967296 := by rw [hu2]; exact holt _ (List.getElem_mem hw2)
 have l4 : d2 < 4294967296 := by rw [hd2]; exact hdlt _ (List.getElem_mem hd2l)
 have hGR : (un * 4294967296 + u1) / dt * dt + (un * 4294967296 + u1) % dt = un * 4294967296 + u1 := by rw [Nat.mul_comm]; exact Nat.div_add_mod _ _
 have hR0l : (un * 4294967296 + u1) % dt < dt := Nat.mod_lt _ (by omega)
 have hM : ∃ M D0 U0, 0 < M ∧ D0 < M ∧ U0 < M ∧ D = (dt * 4294967296 + d2) * M + D0 ∧ U = ((un * 4294967296 + u1) * 4294967296 + u2) * M + U0 := by
  obtain ⟨D0, h1, h2⟩ := split_top2 hdlt (n - 2) (by omega)
  obtain ⟨U0, h3, h4⟩ := split_top3 (xs := (o.drop off).take (n + 1)) (fun x hx => holt x (List.mem_of_mem_drop (List.mem_of_mem_take hx))) (n - 2) (by simp; omega)
  refine ⟨4294967296 ^ (n - 2), D0, U0, ww_pos _, h1, h3, ?_, ?_⟩
  ·rw [hD, h2, show n - 2 + 1 = n - 1 by omega]
   simp [List.getD, hd1, hd2l, ← hdt, ← hd2]
  rw [hU, h4, show n - 2 + 1 = n - 1 by omega, show n - 2 + 2 = n by omega]
  have g0 : ((o.drop off).take (n + 1)).getD n 0 = un := by simp [List.getD, List.getElem?_take, hw0, ← hun]
  have g1 : ((o.drop off).take (n + 1)).getD (n - 1) 0 = u1 := by simp [List.getD, List.getElem?_take, hw1, ← hu1, show n - 1 < n + 1 by omega]
  have g2 : ((o.drop off).take (n + 1)).getD (n - 2) 0 = u2 := by simp [List.getD, List.getElem?_take, hw2, ← hu2, show n - 2 < n + 1 by omega]
  rw [g0, g1, g2]
 obtain ⟨M, D0, U0, hM0, hD0, hU0, hDe, hUe⟩ := hM
 have hun_le : un ≤ dt := knuth_un hDe hUe hD0 l4 hUD
 have hG0l := knuth_g0 htop hun_le l1 hGR
 have hGU := knuth_first hDe hUe hU0 l2 hGR hR0l
 have hDpos : 0 < D := by
  rw [hDe]
  have : 1 * M ≤ (dt * 4294967296 + d2) * M := Nat.mul_le_mul_right _ (by omega)
  omega
 exact ⟨_, _, rfl, rfl, hGR, hR0l, hG0l, hGU, hDpos, fun G R h hg => knuth_dec (G := G) (R := R) hDe hUe hU0 h hg, fun G R h hg hG => knuth_exit (G := G) (R := R) hDe hUe hD0 hU0 (by omega) h hg hG⟩
end Go.Proofs.YtokmkopihhnggaaGreatDoor
