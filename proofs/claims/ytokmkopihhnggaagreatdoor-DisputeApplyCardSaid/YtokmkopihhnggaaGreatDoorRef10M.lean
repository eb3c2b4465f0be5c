/- insolvencyref1: long: walked. -/
import Derived.Test.YtokmkopihhnggaaGreatDoorRef8M
import Derived.StillTailTactics
import Derived.Test.YtokmkopihhnggaaGreatDoorRef4M
import Derived.Test.YtokmkopihhnggaaGreatDoorNumM
import Derived.Handy
import Derived.Test.YtokmkopihhnggaaGreatDoorJfM
set_option linter.unusedVariables false
set_option linter.unusedSimpArgs false
namespace Go.Proofs.YtokmkopihhnggaaGreatDoor
open Go.RowKit
theorem and32 (t : Nat) (h : t < 18446744073709551616) : bits .and .u64 (t : Int) 4294967295 = ((t % 4294967296 : Nat) : Int) := by
 have h1 := bits_and_u64_nat t 4294967295 h (by decide)
 have h2 : t &&& 4294967295 = t % 4294967296 := Nat.and_two_pow_sub_one_eq_mod t 32
 rw [h2] at h1
 exact h1
def LW (w wr : World) (gd nn : Nat) (od : List Nat) (gq Q : Nat) (oq : List Nat) : Prop := OwnL wr gd nn od ∧ OwnL wr gq Q oq ∧ Below w.heap.size w wr
theorem LW.set {w wr : World} {gd nn : Nat} {od : List Nat} {gq Q : Nat} {oq : List Nat} (h : LW w wr gd nn od gq Q oq) {gu : Nat} (h1 : gu ≠ gd) (h2 : gu ≠ gq) (h3 : w.heap.size ≤ gu) (p : Nat) (v : Value) : LW w (wr.setCell ⟨gu, p, none⟩ v) gd nn od gq Q oq :=
 ⟨h.1.other h1 p v, h.2.1.other h2 p v, h.2.2.setCell h3 v⟩
theorem LW.drewN {w wr : World} {gd nn : Nat} {od : List Nat} {gq Q : Nat} {oq : List Nat} (h : LW w wr gd nn od gq Q oq) (k : Nat) : LW w (wr.drewN k) gd nn od gq Q oq := ⟨h.1, h.2.1, h.2.2.drewN k⟩
def Pre (od ds : List Nat) (n : Nat) : Prop := ∀ j (_ : j < n), ∃ h1 h2, od[j]'h1 = ds[j]'h2
theorem LW.dcell {w wr : World} {gd nn : Nat} {od : List Nat} {gq Q : Nat} {oq : List Nat} (h : LW w wr gd nn od gq Q oq) {ds : List Nat} {n : Nat} (hp : Pre od ds n) {j : Nat} (hj : j < n) (hl : j < ds.length) : wr.cell? ⟨gd, j, none⟩ = some (.int .u32 (ds[j] : Nat)) := by
 obtain ⟨h1, h2, h3⟩ := hp j hj
 have := h.1.cell h1
 rw [h3] at this
 exact this
set_option maxRecDepth 100000 in
set_option maxHeartbeats 2000000 in
theorem long_any0 (S : Nat → Prop) (u v : Value) (x y : Nat) (w : World) (hS : ∀ b, S b → b < w.heap.size) (hl : (limbsOf x).length ≤ 999999999999) (hxy : y ≤ x) (hy2 : 2 ≤ (limbsOf y).length) (hu : rSlice 1 rU32 w S [u] (limbsOf x)) (hv : rSlice 1 rU32 w S [v] (limbsOf y)) :
    Calls Tryz.prog 235 #[u, v] w fun e w' => ∃ q r, e = .returned (.tuple #[q, r]) ∧ rSlice 1 rU32 w' (LT w'.heap.size) [q] (limbsOf (x / y)) ∧ rSlice 1 rU32 w' (LT w'.heap.size) [r] (limbsOf (x % y)) ∧ Below w.heap.size w w' := by
  have hnm : (limbsOf y).length ≤ (limbsOf x).length := by
    apply limbsOf_len_le
    have := limbsVal_lt (limbsOf_lt x)
    rw [limbsVal_limbsOf] at this
    omega
  have hu' := hid hu
  have hv' := hid hv
  have hUU := fun (w' : World) (hb : Below w.heap.size w w') => (stays_rSlice stays_rU32) _ _ _ _ _ _ hu (fun b h => hb.block b (hS b h)) fun b h => Nat.lt_of_lt_of_le (hS b h) hb.size
  have hVV := fun (w' : World) (hb : Below w.heap.size w w') => (stays_rSlice stays_rU32) _ _ _ _ _ _ hv (fun b h => hb.block b (hS b h)) fun b h => Nat.lt_of_lt_of_le (hS b h) hb.size
  have HU := hid hUU
  have HV := hid hVV
  clear hUU hVV
  have hxW : x < 4294967296 ^ (limbsOf x).length := by
    have := limbsVal_lt (limbsOf_lt x)
    rwa [limbsVal_limbsOf] at this
  obtain ⟨xa, xc, rfl, x1, x2, x3, x4⟩ := u32s_open hu
  obtain ⟨ya, yc, rfl, y1, y2, y3, y4⟩ := u32s_open hv
  obtain ⟨n, hn⟩ : ∃ n, n = (limbsOf y).length := ⟨_, rfl⟩
  obtain ⟨m, hm⟩ : ∃ m, m = (limbsOf x).length := ⟨_, rfl⟩
  rw [← hm] at hxW hl hnm
  rw [← hn] at hnm hy2
  rcases y4 with y4 | ⟨vb, voff, rfl, y4⟩
  · rw [y4] at hn; simp at hn; omega
  have hn1 : n - 1 < (limbsOf y).length := by omega
  have g0 := (y4.u32 hn1).1
  have hvS := hS vb y4.1
  have htW : (limbsOf y)[n - 1] < 4294967296 := limbsOf_lt y _ (List.getElem_mem hn1)
  obtain ⟨t, ht⟩ : ∃ t, t = (limbsOf y)[n - 1] := ⟨_, rfl⟩
  rw [← ht] at g0 htW
  have htD : t = (limbsOf y).getD (n - 1) 0 := by rw [ht]; simp [List.getD, hn1]
  obtain ⟨s, hs⟩ : ∃ s, s = 32 - Lib.bitLen t := ⟨_, rfl⟩
  obtain ⟨hs32, hD1, hD2⟩ := div_norm hn.symm (by omega) htD hs
  have ht0 : 0 < t := by
    have := limbsOf_last (n := y) (by intro h; rw [h, limbsOf_zero] at hn; simp at hn; omega)
    rw [← hn, ← htD] at this; exact this
  have hy0 : 0 < y := by
    rcases Nat.eq_zero_or_pos y with h | h
    · rw [h, limbsOf_zero] at hn; simp at hn; omega
    exact h
  have hbl : Lib.bitLen t ≤ 32 := Lib.bitLen_le t 32 (by decide) htW
  have HLS := hid (fun s' (h : s' ≤ s) => lead_search ht0 htW hs h)
  have hmk := fun (w : World) => make_one (P := Tryz.prog) Tryz.underlying203 Tryz.infoU32 rfl w (m - n + 1) (by omega) (by omega)
  have hX1 : x * 2 ^ s < 4294967296 ^ (m + 1) := by
    have := pow2_lt hs32
    rw [Nat.pow_succ]
    calc x * 2 ^ s < 4294967296 ^ m * 2 ^ s := Nat.mul_lt_mul_of_pos_right hxW (Nat.pow_pos (by decide))
      _ ≤ _ := Nat.mul_le_mul_left _ (by omega)
  have HN := hid (show _ ∧ _ ∧ _ ∧ _ from ⟨hD1, hD2, hX1, hxW⟩)
  clear hD1 hD2 hX1 hxW htD hs hbl hu hv
  rw [← hn] at y1
  rw [← hm] at x1
  have HMN := hid (show _ ∧ _ from ⟨hm, hn⟩)
  obtain ⟨rr, hrr⟩ : ∃ r, r = m - n := ⟨_, rfl⟩
  obtain ⟨Q, hQ⟩ : ∃ r, r = m - n + 1 := ⟨_, rfl⟩
  obtain ⟨m1, hm1⟩ : ∃ r, r = m + 1 := ⟨_, rfl⟩
  simp only [← hQ] at hmk
  have hmn1 : ((m : Int) - (n : Int)) = (rr : Int) := by omega
  have hmn2 : ((rr : Int) + 1) = (Q : Int) := by omega
  have hmn3 : ((Q : Int) - 1) = (rr : Int) := by omega
  have hm1' : ((m : Int) + 1) = (m1 : Int) := by omega
  have hnn1 : ((n : Int) - 1) = ((n - 1 : Nat) : Int) := by omega
  rw [← hn] at hv' HV ⊢
  rw [← hm] at hu' HU ⊢
  have hm1b : m1 ≤ 1000000000000 := by omega
  have hQb : Q ≤ 1000000000000 := by omega
  have HM1 := hid hm1
  have HQ := hid hQ
  clear hm1 hQ hrr
  have hne1 : ¬ ((n : Int) = 1) := by omega
  clear ht hm hn y4 x4 hv' hu'
  go_enter Tryz.func235, Tryz.ntmps235
  go_wp2
  go_loop [7] (fun c => ∃ s' : Nat, s' ≤ s ∧ c = .int .u64 (s' : Int)) (fun c => s - (intOf c).toNat)
  case atStart => exact ⟨0, Nat.zero_le _, rfl⟩
  case round =>
    obtain ⟨s', hs', rfl⟩ := hrel
    obtain ⟨l1, l2, l3⟩ := HLS.out s' hs'
    have e1 : (t : Int) * 2 ^ s' = ((t * 2 ^ s' : Nat) : Int) := by rw [Int.natCast_mul, Int.natCast_pow]; rfl
    obtain ⟨z, hz⟩ : ∃ z, z = t * 2 ^ s' := ⟨_, rfl⟩
    rw [← hz] at l1 l2 l3 e1
    have hs32' : s' < 32 := by omega
    have q0 : (z : Int) % 4294967296 = (z : Int) := by omega
    have q1 : IntKind.u32.wrap (z : Int) = (z : Int) := by rw [IntKind.wrap_u32]; omega
    have HTW := hid htW
    rw [← e1] at q0 q1
    clear hz l1 htW
    by_cases hlt : s' < s
    · have hz1 := l2 hlt
      have q3 : IntKind.u64.wrap ((s' : Int) + 1) = (s' : Int) + 1 := IntWalk.u64_in _ (by omega)
      have q2 : (t : Int) * 2 ^ s' < 2147483648 := by rw [e1]; omega
      clear l2 l3 hz1 e1
      go_wp2
      clear q0 q1 q2 q3
      go_round
      case rel => exact ⟨s' + 1, hlt, by go_num⟩
      case measure => simp [intOf]; omega
    have hss : s' = s := by omega
    subst hss
    have hz1 := l3 rfl
    have q2 : ¬ ((t : Int) * 2 ^ s' < 2147483648) := by rw [e1]; omega
    clear l2 l3 hlt hs' hz1 e1
    have hS1 := shifted_any _ _ _ s' w (fun _ h => h) (by rw [← HMN.out.1]; omega) hs32 (HU.out w (Below.refl _ _))
    rw [limbsVal_limbsOf, ← HMN.out.1, ← HM1.out] at hS1
    have HS1 := hid hS1
    clear hS1
    go_wp2_with fail
    refine Calls.mono HS1.out ?_
    rintro e w3 ⟨gu, ou, rfl, hgu, hou, huv, hb3⟩
    have HUV := hid huv
    have hn1' := hid (show n + 1 ≤ 1000000000000 by omega)
    obtain ⟨nn, hnn⟩ : ∃ nn, nn = n + 1 := ⟨_, rfl⟩
    have hS2 := shifted_any _ _ _ s' w3 (fun _ h => h) (by rw [← HMN.out.2]; omega) hs32 (HV.out w3 hb3)
    rw [limbsVal_limbsOf, ← HMN.out.2, ← hnn] at hS2
    have HS2 := hid hS2
    have hnn2 : n ≤ nn := by omega
    have HNN := hid hnn
    clear hS2 huv HS1 hnn
    go_wp2_with fail
    refine Calls.mono HS2.out ?_
    rintro e w4 ⟨gd, od, rfl, hgd, hod, hdv, hb4⟩
    have HDV := hid hdv
    clear hdv HS2
    have hgu3 := hou.lt
    have hou4 := hou.below hb4 hgu3
    have hgd4 := hod.lt
    have hb14 := hb3.step hb4
    go_wp2
    clear hmk HLS HU HV
    have HQ' := hid (show Q + n = m1 by have := HQ.out; have := HM1.out; omega)
    have hrq : rr + 1 = Q := by omega
    have HD0 := hid (show 0 < y * 2 ^ s' from Nat.mul_pos hy0 (Nat.pow_pos (by decide)))
    have hgud : gu ≠ gd := by omega
    have hqu : w4.heap.size ≠ gu := by omega
    have hqd : w4.heap.size ≠ gd := by omega
    have hwq : w.heap.size ≤ w4.heap.size := hb14.size
    have hwu : w.heap.size ≤ gu := by omega
    have hdrop := drop_zero (o := od) (n := n) (by rw [hod.1]; omega) (by rw [HDV.out]; exact HN.out.1)
    obtain ⟨ds, hds⟩ : ∃ ds, ds = od.take n := ⟨_, rfl⟩
    have hdsl : ds.length = n := by rw [hds]; simp [hod.1]; omega
    have hdsv := hid (show limbsVal ds = y * 2 ^ s' by rw [hds, hdrop.2]; exact HDV.out)
    have hdslt := hid (show ∀ x ∈ ds, x < 4294967296 from fun x hx => hod.2.1 x (by rw [hds] at hx; exact List.mem_of_mem_take hx))
    have hdsg := hid (show ∀ j (h : j < n), ∃ h1 h2, od[j]'h1 = ds[j]'h2 from fun j h => ⟨by rw [hod.1]; omega, by omega, by subst hds; simp⟩)
    have HDSL := hid hdsl
    clear hdrop hds hdsl q0 q1 q2
    go_loopw [11, 12, 13, 14, 15, 16, 17, 18, 19, 20, 21, 22, 23] (fun i _ _ _ _ _ _ _ _ _ _ _ _ wr => ∃ (k : Nat) (ou oq : List Nat), k ≤ Q ∧ i = .int .i64 ((k : Int) - 1) ∧ Below w.heap.size w wr ∧ OwnL wr gd nn od ∧ OwnL wr gu m1 ou ∧ OwnL wr w4.heap.size Q oq ∧
      Hid (limbsVal (ou.drop k) < y * 2 ^ s') ∧ Hid (x * 2 ^ s' = limbsVal (oq.drop k) * 4294967296 ^ k * (y * 2 ^ s') + limbsVal ou)) (fun i _ _ _ _ _ _ _ _ _ _ _ _ _ => (intOf i + 1).toNat)
    case atStart =>
      refine ⟨Q, ou, _, Nat.le_refl _, by rw [show (Q : Int) - 1 = (rr : Int) by omega], hb14.alloc hwq _, hod.alloc _, hou4.alloc _, OwnL.new _ _, ?_, ?_⟩
      · show limbsVal (ou.drop Q) < _
        rw [HQ.out]
        exact div_start HN.out.2.2.2 rfl hs32 (by omega) hnm HN.out.2.1 (by rw [hou.1]; exact HM1.out) hou.2.1 HUV.out
      show x * 2 ^ s' = _
      rw [HUV.out, List.drop_of_length_le (by simp)]
      simp [limbsVal]
    case round =>
      obtain ⟨k, o, oq, hk, rfl, hbw, hod', hou', hoq', HI, HX⟩ := hrel
      cases k with
      | zero =>
        rw [show (((0 : Nat) : Int) - 1) = -1 from rfl]
        have hx1 := HX.out
        have hx2 := HI.out
        rw [List.drop_zero] at hx1 hx2
        obtain ⟨hq1, hr1⟩ := div_end hy0 hx1 hx2
        have hoW : limbsVal o < 4294967296 ^ n := Nat.lt_trans hx2 HN.out.1
        have HE0 := hid (show limbsVal oq = x / y ∧ limbsVal o / 2 ^ s' = x % y ∧ limbsVal o < 4294967296 ^ n from ⟨hq1, hr1, hoW⟩)
        clear hx1 hx2 hq1 hr1 hoW HI HX hod'
        obtain ⟨wo, rfl⟩ : ∃ wo : World, wo = wr := ⟨_, rfl⟩
        have hmk2 := fun (w : World) => make_one (P := Tryz.prog) Tryz.underlying203 Tryz.infoU32 rfl w n (by omega) (by omega)
        have hou1 := hou'.alloc (.cells ((Array.range n).map fun _ => Value.int .u32 0) 206)
        have hoq1 := hoq'.alloc (.cells ((Array.range n).map fun _ => Value.int .u32 0) 206)
        have hguo := hou'.lt
        have hgqo := hoq'.lt
        have hnr1 : wo.heap.size ≠ gu := by omega
        have hnr2 : wo.heap.size ≠ w4.heap.size := by omega
        have hbws := hbw.size
        have HQn := hid (show Q ≤ 1000000000000 ∧ n ≤ 1000000000000 ∧ n + 1 ≤ m1 from ⟨by omega, by omega, by have := HM1.out; omega⟩)
        go_wp2
        clear hmk2
        go_loopw [25] (fun i wx => ∃ (z : Nat) (r : List Nat), z ≤ n ∧ i = .int .i64 z ∧ Below w.heap.size w wx ∧ OwnL wx gu m1 o ∧ OwnL wx w4.heap.size Q oq ∧ OwnL wx wo.heap.size n r ∧ Hid (∀ j, j < z → r.getD j 0 = limbsVal o / 2 ^ s' / 4294967296 ^ j % 4294967296)) (fun i _ => n - (intOf i).toNat)
        case atStart => exact ⟨0, _, Nat.zero_le _, rfl, hbw.alloc hbws _, hou1, hoq1, OwnL.new _ _, fun j hj => by omega⟩
        case round =>
          clear hou1 hoq1
          obtain ⟨z, r, hz, rfl, hbx, hox, hqx, hrx, HE⟩ := hrel
          by_cases hlt : z < n
          · have hz0 : z < o.length := by rw [hou'.1]; have := HQn.out.2.2; omega
            have hz1 : z + 1 < o.length := by rw [hou'.1]; have := HQn.out.2.2; omega
            have hzm : z + 1 < m1 := by have := HQn.out.2.2; omega
            have HDG := hid (unshift_digit hox.2.1 z s' hz0 hs32)
            have ey : o.getD (z + 1) 0 = o[z + 1] := by simp [List.getD, hz1]
            rw [ey] at HDG
            have g1 := hox.2.1 _ (List.getElem_mem hz0)
            have f1 := hox.2.1 _ (List.getElem_mem hz1)
            obtain ⟨a, ha⟩ : ∃ a, a = o[z] := ⟨_, rfl⟩
            obtain ⟨b, hb⟩ : ∃ b, b = o[z + 1] := ⟨_, rfl⟩
            rw [← ha] at g1 HDG
            rw [← hb] at f1 HDG
            have Ha := hid ha
            have Hb := hid hb
            clear ha hb ey
            have o1 := or32_add b a f1 g1
            obtain ⟨d, hd⟩ : ∃ d : Nat, d = (b * 4294967296 + a) / 2 ^ s' % 4294967296 := ⟨_, rfl⟩
            have hd1 : d < 4294967296 := by rw [hd]; exact Nat.mod_lt _ (by decide)
            have HV := hid (show ((b : Int) * 4294967296 + (a : Int)) / 2 ^ s' % 4294967296 = (d : Int) by
              rw [hd, Int.natCast_emod, Int.natCast_ediv, Int.natCast_pow, Int.natCast_add, Int.natCast_mul]
              rfl)
            rw [HDG.out] at hd
            have HD2 := hid hd
            clear hd HDG
            have hzr : z < r.length := by rw [hrx.1]; exact hlt
            obtain ⟨wd, hwd⟩ : ∃ wd : World, wd = wr.drew := ⟨_, rfl⟩
            have hbd : Below w.heap.size w wd := by rw [hwd]; exact Below.drew hbx
            have hod : OwnL wd gu m1 o := by rw [hwd]; exact hox
            have hqd' : OwnL wd w4.heap.size Q oq := by rw [hwd]; exact hqx
            have hrd : OwnL wd wo.heap.size n r := by rw [hwd]; exact hrx
            have c1 := hod.cell hz0
            have c2 := hod.cell hz1
            rw [← Ha.out] at c1
            rw [← Hb.out] at c2
            have c3 := hrd.cell hzr
            have c4 := hrd.frozen z
            have HWD := hid hwd
            have hwz : w.heap.size ≤ wo.heap.size := hbws
            clear hwd hox hqx hrx hbx
            have w1 : IntKind.i64.wrap ((z : Int) + 1) = (z : Int) + 1 := IntWalk.i64_in _ (by omega)
            have b1 : (0 : Int) ≤ (z : Int) + 1 := by omega
            have b2 : (z : Int) + 1 < (m1 : Int) := by omega
            have b3 : ((z : Int) + 1).toNat = z + 1 := by omega
            have b4 : z < m1 := by omega
            go_wp2
            refine wp_region_still_tail 19 (by kernel_rfl) (by kernel_rfl) ?_
            change wpStill _ _ wr.drew (fun a' => wpList _ _ _ _ a' wr.drew) _ _
            rw [← HWD.out]
            simp only [List.take_succ_cons, List.take_zero, List.drop_succ_cons, List.drop_zero]
            repeat still_step
            refine wpStill_nil ?_
            clear w1 b1 b2 b3
            go_wp2
            go_roundw
            case rel =>
              rw [HV.out]
              refine ⟨z + 1, r.set z d, by omega, by go_num, hbd.setCell hwz _, hod.other hnr1 _ _, hqd'.other hnr2 _ _, hrd.set hzr hd1, fun j hj => ?_⟩
              by_cases hjk : j = z
              · subst hjk; rw [← HD2.out]; simp [List.getD, hzr]
              rw [← HE.out j (by omega)]; simp [List.getD, List.getElem?_set, show ¬ z = j by omega]
            case measure => simp [intOf]; omega
          obtain rfl : n = z := by omega
          have hre : r = limbsFix n (limbsVal o / 2 ^ s') := by
            apply List.ext_getElem?
            intro j
            by_cases hj : j < n
            · have h1 := HE.out j hj
              rw [limbsFix_get _ _ _ hj, ← h1]
              have : j < r.length := by rw [hrx.1]; exact hj
              simp [List.getD, this]
            rw [List.getElem?_eq_none (by rw [hrx.1]; omega), List.getElem?_eq_none (by rw [limbsFix_len]; omega)]
          have hval : limbsVal r = x % y := by
            rw [hre, limbsFix_val, Nat.mod_eq_of_lt]
            · exact HE0.out.2.1
            exact Nat.lt_of_le_of_lt (Nat.div_le_self _ _) HE0.out.2.2
          have hS1 := strip_any _ _ _ _ (hqx.slice (by have := HQn.out.1; omega))
          rw [HE0.out.1] at hS1
          have hS2 := strip_any _ _ _ _ (hrx.slice (by have := HQn.out.2.1; omega))
          rw [hval] at hS2
          have HS1 := hid hS1
          have HS2 := hid hS2
          clear hS1 hS2 hre hval
          go_wp2_with fail
          refine Calls.mono HS1.out ?_
          rintro e w5 ⟨q, rfl, rfl, hq⟩
          go_wp2_with fail
          refine Calls.mono HS2.out ?_
          rintro e w5 ⟨r', rfl, rfl, hr⟩
          go_wp2
          go_ret2
          exact ⟨_, _, rfl, hq, hr, hbx⟩
      | succ k =>
        rw [show (((k + 1 : Nat) : Int) - 1) = (k : Int) by omega]
        have hkQ : k < Q := by omega
        have hkm : k + n < m1 := by have := HQ'.out; omega
        have hlw : LW w wr gd nn od w4.heap.size Q oq := ⟨hod', hoq', hbw⟩
        have hpre : Pre od ds n := hdsg.out
        have hwin := div_window (k := k) hou'.1 (by have := HQ'.out; omega) hou'.2.1 HN.out.1 HI.out
        have hdl := HDSL.out
        have hd1 : n - 1 < ds.length := by omega
        have hd2 : n - 2 < ds.length := by omega
        have hol := hou'.1
        have hw0 : k + n < o.length := by omega
        have hw1 : k + (n - 1) < o.length := by omega
        have hw2 : k + (n - 2) < o.length := by omega
        have c0 := hou'.cell hw0
        have c1 := hou'.cell hw1
        have c2 := hou'.cell hw2
        have k1 := hlw.dcell hpre (j := n - 1) (by omega) hd1
        have k2 := hlw.dcell hpre (j := n - 2) (by omega) hd2
        obtain ⟨un, hun⟩ : ∃ x, x = o[k + n] := ⟨_, rfl⟩
        obtain ⟨u1, hu1⟩ : ∃ x, x = o[k + (n - 1)] := ⟨_, rfl⟩
        obtain ⟨u2, hu2⟩ : ∃ x, x = o[k + (n - 2)] := ⟨_, rfl⟩
        obtain ⟨dt, hdt⟩ : ∃ x, x = ds[n - 1] := ⟨_, rfl⟩
        obtain ⟨d2, hd2'⟩ : ∃ x, x = ds[n - 2] := ⟨_, rfl⟩
        have l0 : un < 4294967296 := by rw [hun]; exact hou'.2.1 _ (List.getElem_mem hw0)
        have l1 : u1 < 4294967296 := by rw [hu1]; exact hou'.2.1 _ (List.getElem_mem hw1)
        have l2 : u2 < 4294967296 := by rw [hu2]; exact hou'.2.1 _ (List.getElem_mem hw2)
        have l3 : dt < 4294967296 := by rw [hdt]; exact hdslt.out _ (List.getElem_mem hd1)
        have l4 : d2 < 4294967296 := by rw [hd2']; exact hdslt.out _ (List.getElem_mem hd2)
        have htop := div_top (by omega) HN.out.2.1 hdl hdslt.out hdsv.out
        have htop' : 2147483648 ≤ dt := by simpa [List.getD, hd1, ← hdt] using htop
        rw [← hun] at c0
        rw [← hu1] at c1
        rw [← hu2] at c2
        rw [← hdt] at k1
        rw [← hd2'] at k2
        obtain ⟨D, hD⟩ : ∃ D, D = limbsVal ds := ⟨_, rfl⟩
        obtain ⟨U, hU⟩ : ∃ U, U = limbsVal ((o.drop k).take (n + 1)) := ⟨_, rfl⟩
        have hUD : U < 4294967296 * D := by rw [hU, hwin.1, hD, hdsv.out]; exact hwin.2.2
        obtain ⟨G0, R0, hG0, hR0, hGR, hR0l, hG0l, hGU, hDpos, hdec, hexit⟩ := step_pre hy2 hdl hol hkm hdslt.out hou'.2.1 hD hU hUD hun hu1 hu2 hdt hd2' htop'
        have hend : ∀ o' : List Nat, o'.length = m1 → (∀ j, j < k ∨ k + n < j → o'.getD j 0 = o.getD j 0) → limbsVal ((o'.drop k).take (n + 1)) = U % D →
            limbsVal (o'.drop k) < y * 2 ^ s' ∧ x * 2 ^ s' = limbsVal ((oq.set k (U / D)).drop k) * 4294967296 ^ k * (y * 2 ^ s') + limbsVal o' := by
          intro o' h1 h2 h3
          have eD : D = y * 2 ^ s' := by rw [hD]; exact hdsv.out
          rw [hU]
          rw [hU] at h3
          rw [eD] at h3 ⊢
          exact div_round hou'.1 h1 hoq'.1 hkQ (by have := HQ'.out; omega) hou'.2.1 HN.out.1 HD0.out HI.out HX.out h2 h3
        have HEND := hid hend
        clear hend
        have o1 := or32_add un u1 l0 l1
        have eT : ((un * 4294967296 + u1 : Nat) : Int) = (un : Int) * 4294967296 + (u1 : Int) := by omega
        have q1 : ((un : Int) * 4294967296 + (u1 : Int)) / (dt : Int) = (G0 : Int) := by rw [← hG0, Int.natCast_ediv, eT]
        have q2 : ((un : Int) * 4294967296 + (u1 : Int)) % (dt : Int) = (R0 : Int) := by rw [← hR0, Int.natCast_emod, eT]
        clear eT hG0 hR0
        obtain ⟨p1, hp1⟩ : ∃ p, p = k + (n - 1) := ⟨_, rfl⟩
        obtain ⟨p2, hp2⟩ : ∃ p, p = k + (n - 2) := ⟨_, rfl⟩
        rw [← hp1] at c1
        rw [← hp2] at c2
        have n1 : (k : Int) + (n : Int) - 1 = (p1 : Int) := by omega
        have n2 : (k : Int) + (n : Int) - 2 = (p2 : Int) := by omega
        have n3 : (n : Int) - 2 = ((n - 2 : Nat) : Int) := by omega
        have n4 : p1 < m1 := by omega
        have n5 : p2 < m1 := by omega
        have Hu2 := hid hu2
        have Hp2 := hid hp2
        have Hdt := hid hdt
        have Hd2 := hid hd2'
        have HGR := hid hGR
        have HdecL := hid hdec
        have HexitL := hid hexit
        have HD := hid hD
        have HUU := hid hU
        have HGU := hid hGU
        have HU' := hid hUD
        have Hol := hid hol
        have HLWr := hid hlw
        have HPre := hid hpre
        clear hun hu1 hu2 hdt hd2' hGR hdec hexit hD hU hGU hUD hol hwin htop hdl hp1 hp2 hlw hpre
        have c1' := c1
        go_wp2
        go_quiet (fail)
        go_upto_block 4 with fail
        go_cut [13, 14] (fun s13 _ wx => ∃ G : Nat, s13 = .int .u64 G ∧ G ≤ 4294967296 ∧ Hid (U < (G + 1) * D) ∧ Hid (G * D ≤ U + D) ∧ OwnL wx gu m1 o ∧ LW w wx gd nn od w4.heap.size Q oq)
        case first =>
          go_wp2_with fail
          go_loopw [13, 14] (fun s7 s8 wx => ∃ G R : Nat, s7 = .int .u64 G ∧ s8 = .int .u64 R ∧ Hid (G * dt + R = un * 4294967296 + u1) ∧ R < 4294967296 ∧ G ≤ 4294967297 ∧ Hid (U < (G + 1) * D) ∧ OwnL wx gu m1 o ∧ LW w wx gd nn od w4.heap.size Q oq) (fun s7 _ _ => (intOf s7).toNat)
          case atStart => exact ⟨G0, R0, by rw [q1], by rw [q2], HGR, by omega, hG0l, HGU, hou'.drewN _, HLWr.out.drewN _⟩
          case round =>
            clear c0 c1 c1' c2 k1 k2 hou' q1 q2 o1 hod' hoq' hbw
            obtain ⟨G, R, rfl, rfl, HG, hR, hGl, HGu, hown, hlw⟩ := hrel
            have k1 := hlw.dcell HPre.out (j := n - 1) (by omega) hd1
            have k2 := hlw.dcell HPre.out (j := n - 2) (by omega) hd2
            rw [← Hdt.out] at k1
            rw [← Hd2.out] at k2
            have c2 := hown.cell hw2
            rw [← Hu2.out, ← Hp2.out] at c2
            by_cases hA : 4294967296 ≤ G
            · have dA : decide ((4294967296 : Int) ≤ (G : Int)) = true := by simp; omega
              have HG0 := hid (show 0 < G by omega)
              have HLT := hid (show U < G * D from Nat.lt_of_lt_of_le HU'.out (Nat.mul_le_mul_right _ hA))
              have e1 : IntKind.u64.wrap ((G : Int) - 1) = ((G - 1 : Nat) : Int) := by
                have : (G : Int) - 1 = ((G - 1 : Nat) : Int) := by omega
                rw [this]; exact IntWalk.u64_in _ (by omega)
              have e2 : IntKind.u64.wrap ((R : Int) + (dt : Int)) = (R : Int) + (dt : Int) := IntWalk.u64_in _ (by omega)
              have hq : Hid (U < (G - 1 + 1) * D) := by show U < (G - 1 + 1) * D; rw [show G - 1 + 1 = G by omega]; exact HLT.out
              have hgr2 : Hid ((G - 1) * dt + (R + dt) = un * 4294967296 + u1) := by
                show (G - 1) * dt + (R + dt) = un * 4294967296 + u1
                rw [← HG.out]
                have : G * dt = (G - 1) * dt + dt := by conv => lhs; rw [show G = G - 1 + 1 by omega, Nat.add_mul, Nat.one_mul]
                omega
              have hG1 : G - 1 ≤ 4294967296 := by omega
              by_cases hB : 4294967296 ≤ R + dt
              · have dB : decide ((4294967296 : Int) ≤ (R : Int) + (dt : Int)) = true := by simp; omega
                have hex : Hid ((G - 1) * D ≤ U + D) := HexitL.out (G - 1) (R + dt) hgr2.out (by
                  have h1 : (G - 1) * d2 ≤ 4294967296 * 4294967296 := Nat.mul_le_mul hG1 (by omega)
                  have h2 : 4294967296 * 4294967296 ≤ (R + dt) * 4294967296 := Nat.mul_le_mul_right _ hB
                  omega) hG1
                have HB := hid hB
                clear hA hGl hB
                go_wp2
                go_quiet (fail)
                go_upto_region 17 with fail
                go_wp2
                go_meet
                case rel => exact ⟨G - 1, rfl, hG1, hq, hex, hown.drewN _, hlw.drewN _⟩
              have dB : decide ((4294967296 : Int) ≤ (R : Int) + (dt : Int)) = false := by simp; omega
              have HB := hid hB
              have hRd : R + dt < 4294967296 := by omega
              have HRd := hid hRd
              clear hA hGl hB hRd
              go_wp2
              go_quiet (fail)
              go_upto_region 17 with fail
              go_wp2
              go_roundw
              case rel => exact ⟨G - 1, R + dt, rfl, by go_num, hgr2, HRd.out, by have := hG1; omega, hq, hown.drewN _, hlw.drewN _⟩
              case measure => have := HG0.out; simp [intOf]; omega
            have dA : decide ((4294967296 : Int) ≤ (G : Int)) = false := by simp; omega
            have hGl' : G < 4294967296 := by omega
            have hmb := mul_bd hGl' l4
            have e3 : IntKind.u64.wrap ((G : Int) * (d2 : Int)) = (G : Int) * (d2 : Int) := IntWalk.u64_in _ (by rw [← Int.natCast_mul]; omega)
            have o2 := or32_add R u2 hR l2
            by_cases hC : R * 4294967296 + u2 < G * d2
            · have dC : decide ((R : Int) * 4294967296 + (u2 : Int) < (G : Int) * (d2 : Int)) = true := by rw [← Int.natCast_mul]; simp; omega
              have HG0 := hid (show 0 < G by rcases Nat.eq_zero_or_pos G with h | h; · subst h; omega
                                             exact h)
              have HLT := hid (HdecL.out G R HG.out hC)
              have HG00 := HG0.out
              have e1 : IntKind.u64.wrap ((G : Int) - 1) = ((G - 1 : Nat) : Int) := by
                have : (G : Int) - 1 = ((G - 1 : Nat) : Int) := by omega
                rw [this]; exact IntWalk.u64_in _ (by omega)
              have e2 : IntKind.u64.wrap ((R : Int) + (dt : Int)) = (R : Int) + (dt : Int) := IntWalk.u64_in _ (by omega)
              have hq : Hid (U < (G - 1 + 1) * D) := by show U < (G - 1 + 1) * D; rw [show G - 1 + 1 = G by omega]; exact HLT.out
              have hgr2 : Hid ((G - 1) * dt + (R + dt) = un * 4294967296 + u1) := by
                show (G - 1) * dt + (R + dt) = un * 4294967296 + u1
                rw [← HG.out]
                have : G * dt = (G - 1) * dt + dt := by conv => lhs; rw [show G = G - 1 + 1 by omega, Nat.add_mul, Nat.one_mul]
                omega
              have hG1 : G - 1 ≤ 4294967296 := by omega
              by_cases hB : 4294967296 ≤ R + dt
              · have dB : decide ((4294967296 : Int) ≤ (R : Int) + (dt : Int)) = true := by simp; omega
                have hex : Hid ((G - 1) * D ≤ U + D) := HexitL.out (G - 1) (R + dt) hgr2.out (by
                  have h1 : (G - 1) * d2 ≤ 4294967296 * 4294967296 := Nat.mul_le_mul hG1 (by omega)
                  have h2 : 4294967296 * 4294967296 ≤ (R + dt) * 4294967296 := Nat.mul_le_mul_right _ hB
                  omega) hG1
                have HB := hid hB
                clear hA hGl hB hmb hC hGl'
                go_wp2
                go_quiet (fail)
                go_upto_region 17 with fail
                go_wp2
                go_meet
                case rel => exact ⟨G - 1, rfl, hG1, hq, hex, hown.drewN _, hlw.drewN _⟩
              have dB : decide ((4294967296 : Int) ≤ (R : Int) + (dt : Int)) = false := by simp; omega
              have HB := hid hB
              have hRd : R + dt < 4294967296 := by omega
              have HRd := hid hRd
              clear hA hGl hB hRd hmb hC hGl'
              go_wp2
              go_quiet (fail)
              go_upto_region 17 with fail
              go_wp2
              go_roundw
              case rel => exact ⟨G - 1, R + dt, rfl, by go_num, hgr2, HRd.out, by have := hG1; omega, hq, hown.drewN _, hlw.drewN _⟩
              case measure => have := HG0.out; simp [intOf]; omega
            have dC : decide ((R : Int) * 4294967296 + (u2 : Int) < (G : Int) * (d2 : Int)) = false := by rw [← Int.natCast_mul]; simp; omega
            have hex : Hid (G * D ≤ U + D) := HexitL.out G R HG.out (by omega) (by omega)
            have hG1 : G ≤ 4294967296 := by omega
            have HG1 := hid hG1
            clear hA hGl hC hmb hGl' hG1
            go_wp2
            go_quiet (fail)
            go_wp2
            go_meet
            case rel => exact ⟨G, rfl, HG1.out, HGu, hex, hown.drewN _, hlw.drewN _⟩
        case rest =>
          obtain ⟨G, rfl, hG, HGu, HGe, hownc, hlwc⟩ := hcut
          clear c0 c1 c1' c2 k1 k2 q1 q2 o1 n1 n2 n4 n5 hod' hou' hoq' hbw
          have H2 := hid (knuth_two hDpos HGu.out HGe.out)
          go_wp2
          go_loopw [15, 16, 17, 18, 19] (fun c b i _ _ wx => ∃ (z c' b' : Nat) (o' : List Nat), z ≤ n ∧ i = .int .i64 z ∧ c = .int .u64 c' ∧ c' < 4294967296 ∧ b = .int .u64 b' ∧ b' ≤ 1 ∧ OwnL wx gu m1 o' ∧ LW w wx gd nn od w4.heap.size Q oq ∧ Hid (∀ j, (j < k ∨ k + z ≤ j) → o'.getD j 0 = o.getD j 0) ∧
            Hid (limbsVal ((o'.drop k).take z) + G * limbsVal (ds.take z) = limbsVal ((o.drop k).take z) + 4294967296 ^ z * (b' + c'))) (fun _ _ i _ _ _ => n - (intOf i).toNat)
          case atStart => exact ⟨0, 0, 0, o, by omega, rfl, rfl, by omega, rfl, by omega, hownc, hlwc, fun j _ => rfl, by simp [Hid, limbsVal]⟩
          case round =>
            obtain ⟨z, c', b', o', hz, rfl, rfl, hc', rfl, hb', hown', hlw', HO, HE⟩ := hrel
            have hol' := hown'.1
            by_cases hlt : z < n
            · have hlt' : z < ds.length := by have := HDSL.out; omega
              have f0 := hlw'.dcell HPre.out (j := z) hlt hlt'
              have f1 := hdslt.out _ (List.getElem_mem hlt')
              have HT := hid (limbsVal_take_succ ds z hlt')
              obtain ⟨v, hv⟩ : ∃ v, v = ds[z] := ⟨_, rfl⟩
              rw [← hv] at f0 f1 HT
              clear hv
              have hko : k + z < o'.length := by omega
              have c1 := hown'.cell hko
              have c2 := hown'.frozen (k + z)
              obtain ⟨u, hu⟩ : ∃ u, u = o'[k + z] := ⟨_, rfl⟩
              have hu' : u < 4294967296 := by rw [hu]; exact hown'.2.1 _ (List.getElem_mem hko)
              have HUo := hid (show o.getD (k + z) 0 = u by rw [← HO.out (k + z) (.inr (by omega)), hu]; simp [List.getD, hko])
              rw [← hu] at c1
              clear hu
              have HTk := hid (fun d => take_set_snoc (o := o') (off := k) (k := z) (d := d) hko)
              obtain ⟨lo, hlo⟩ : ∃ t : Nat, t = (c' + G * v) % 4294967296 := ⟨_, rfl⟩
              obtain ⟨hi, hhi⟩ : ∃ t : Nat, t = (c' + G * v) / 4294967296 := ⟨_, rfl⟩
              have hmb : G * v ≤ 4294967296 * 4294967295 := Nat.mul_le_mul hG (by omega)
              have hlh : lo + 4294967296 * hi = c' + G * v := by omega
              have hlo' : lo < 4294967296 := by omega
              have hhi' : hi < 4294967296 := by omega
              have e1 : IntKind.u64.wrap ((G : Int) * (v : Int)) = (G : Int) * (v : Int) := IntWalk.u64_in _ (by rw [← Int.natCast_mul]; omega)
              have e2 : IntKind.u64.wrap ((c' : Int) + (G : Int) * (v : Int)) = (c' : Int) + (G : Int) * (v : Int) := IntWalk.u64_in _ (by rw [← Int.natCast_mul]; omega)
              have elo : ((c' : Int) + (G : Int) * (v : Int)) % 4294967296 = (lo : Int) := by rw [← Int.natCast_mul]; omega
              have ehi : ((c' : Int) + (G : Int) * (v : Int)) / 4294967296 = (hi : Int) := by rw [← Int.natCast_mul]; omega
              have ea : bits .and .u64 ((c' : Int) + (G : Int) * (v : Int)) 4294967295 = (lo : Int) := by
                have h1 := and32 (c' + G * v) (by omega)
                rw [← hlo] at h1
                rw [← Int.natCast_mul, ← Int.natCast_add]
                exact h1
              have HLH := hid hlh
              have hfin : ∀ d e, d + lo + b' = u + 4294967296 * e → limbsVal (((o'.set (k + z) d).drop k).take (z + 1)) + G * limbsVal (ds.take (z + 1)) = limbsVal ((o.drop k).take (z + 1)) + 4294967296 ^ (z + 1) * (e + hi) := by
                intro d e hde
                have h1 := HE.out
                rw [HTk.out, limbsVal_snoc, take_len (by omega), HT.out, take_succ_off (by have := Hol.out; omega), limbsVal_snoc, take_len (by have := Hol.out; omega), HUo.out, Nat.mul_add, Nat.pow_succ, Nat.mul_assoc, Nat.mul_left_comm G]
                have h2 : 4294967296 ^ z * d + 4294967296 ^ z * (G * v) + 4294967296 ^ z * (b' + c') = 4294967296 ^ z * u + 4294967296 ^ z * (4294967296 * (e + hi)) := by
                  rw [← Nat.mul_add, ← Nat.mul_add, ← Nat.mul_add]
                  congr 1
                  omega
                omega
              have HF := hid hfin
              clear hlh hmb hlo hhi hfin
              by_cases hb : u < lo + b'
              · obtain ⟨d, hd⟩ : ∃ d, d = u + 4294967296 - (lo + b') := ⟨_, rfl⟩
                have hdl : d < 4294967296 := by omega
                have ed : IntKind.u64.wrap ((u : Int) + 4294967296 - ((lo : Int) + (b' : Int))) = (d : Int) := by
                  have : (u : Int) + 4294967296 - ((lo : Int) + (b' : Int)) = (d : Int) := by omega
                  rw [this]; exact IntWalk.u64_in _ (by omega)
                have HR := hid (HF.out d 1 (by omega))
                clear hd HF
                go_wp2
                go_roundw
                case rel =>
                  refine ⟨z + 1, hi, 1, o'.set (k + z) d, by omega, by go_num, rfl, hhi', rfl, by omega, hown'.set hko hdl, hlw'.set hgud hqu.symm hwu _ _, fun j hj => ?_, HR.out⟩
                  rw [← HO.out j (by omega)]
                  simp [List.getD, List.getElem?_set, show ¬ k + z = j by omega]
                case measure => simp [intOf]; omega
              obtain ⟨d, hd⟩ : ∃ d, d = u - (lo + b') := ⟨_, rfl⟩
              have hdl : d < 4294967296 := by omega
              have ed : IntKind.u64.wrap ((u : Int) - ((lo : Int) + (b' : Int))) = (d : Int) := by
                have : (u : Int) - ((lo : Int) + (b' : Int)) = (d : Int) := by omega
                rw [this]; exact IntWalk.u64_in _ (by omega)
              have HR := hid (HF.out d 0 (by omega))
              clear hd HF
              go_wp2
              go_roundw
              case rel =>
                refine ⟨z + 1, hi, 0, o'.set (k + z) d, by omega, by go_num, rfl, hhi', rfl, by omega, hown'.set hko hdl, hlw'.set hgud hqu.symm hwu _ _, fun j hj => ?_, HR.out⟩
                rw [← HO.out j (by omega)]
                simp [List.getD, List.getElem?_set, show ¬ k + z = j by omega]
              case measure => simp [intOf]; omega
            obtain rfl : n = z := by omega
            have hko : k + n < o'.length := by omega
            have c1 := hown'.cell hko
            have c2 := hown'.frozen (k + n)
            have hkq : k < oq.length := by rw [hlw'.2.1.1]; exact hkQ
            have c3 := hlw'.2.1.cell hkq
            have c4 := hlw'.2.1.frozen k
            obtain ⟨u, hu⟩ : ∃ u, u = o'[k + n] := ⟨_, rfl⟩
            have hu' : u < 4294967296 := by rw [hu]; exact hown'.2.1 _ (List.getElem_mem hko)
            have huo : o.getD (k + n) 0 = u := by rw [← HO.out (k + n) (.inr (by omega)), hu]; simp [List.getD, hko]
            rw [← hu] at c1
            clear hu
            have hds : ds.take n = ds := List.take_of_length_le (by have := HDSL.out; omega)
            have hfin : ∀ d e, d + (c' + b') = u + 4294967296 * e → limbsVal (((o'.set (k + n) d).drop k).take (n + 1)) + G * D = U + 4294967296 ^ (n + 1) * e := by
              intro d e hde
              have h1 := HE.out
              rw [hds, ← HD.out] at h1
              rw [take_set_snoc hko, limbsVal_snoc, take_len (by omega), HUU.out, take_succ_off (by have := Hol.out; omega), limbsVal_snoc, take_len (by have := Hol.out; omega), huo, Nat.pow_succ, Nat.mul_assoc]
              have h2 : 4294967296 ^ n * d + 4294967296 ^ n * (b' + c') = 4294967296 ^ n * u + 4294967296 ^ n * (4294967296 * e) := by
                rw [← Nat.mul_add, ← Nat.mul_add]
                congr 1
                omega
              omega
            have hout : ∀ d j, j < k ∨ k + n < j → (o'.set (k + n) d).getD j 0 = o.getD j 0 := fun d j hj => by
              rw [← HO.out j (by omega)]
              simp [List.getD, List.getElem?_set, show ¬ k + n = j by omega]
            have hPlt : ∀ d, d < 4294967296 → limbsVal (((o'.set (k + n) d).drop k).take (n + 1)) < 4294967296 ^ (n + 1) := fun d hd => by
              have hlen : (((o'.set (k + n) d).drop k).take (n + 1)).length = n + 1 := take_len (by simp; omega)
              have := limbsVal_lt (xs := ((o'.set (k + n) d).drop k).take (n + 1)) (fun x hx => (hown'.set hko hd).2.1 x (List.mem_of_mem_drop (List.mem_of_mem_take hx)))
              rwa [hlen] at this
            have HF := hid hfin
            have HOut := hid hout
            have HP := hid hPlt
            have hq32 : U / D < 4294967296 := Nat.div_lt_of_lt_mul (by rw [Nat.mul_comm]; exact HU'.out)
            have HQ32 := hid hq32
            clear hfin hout hPlt huo hds hq32
            by_cases hb : u < c' + b'
            · obtain ⟨d, hd⟩ : ∃ d, d = u + 4294967296 - (c' + b') := ⟨_, rfl⟩
              have hdl : d < 4294967296 := by omega
              have ed : IntKind.u64.wrap ((u : Int) - ((c' : Int) + (b' : Int))) % 4294967296 = (d : Int) := by rw [IntKind.wrap_u64]; omega
              have h0 := HF.out d 1 (by omega)
              rw [Nat.mul_one] at h0
              have HQe := hid (knuth_end1 hDpos H2.out (HP.out d hdl) h0)
              have hG1 : 1 ≤ G := by rw [HQe.out.1]; exact Nat.le_add_left 1 _
              have eg : IntKind.u64.wrap ((G : Int) - 1) = ((G - 1 : Nat) : Int) := by
                have : (G : Int) - 1 = ((G - 1 : Nat) : Int) := by omega
                rw [this]; exact IntWalk.u64_in _ (by omega)
              have HGe := hid (show G - 1 = U / D by rw [HQe.out.1]; rfl)
              have HGl := hid (show G - 1 < 4294967296 by rw [HGe.out]; exact HQ32.out)
              have hown2 := hown'.set hko hdl
              have hlw2 := hlw'.set hgud hqu.symm hwu (k + n) (.int .u32 (d : Nat))
              obtain ⟨o2, ho2⟩ : ∃ o2, o2 = o'.set (k + n) d := ⟨_, rfl⟩
              have HOut2 := hid (HOut.out d)
              have HL2 := hid (show o2.length = m1 by rw [ho2]; simp [hol'])
              have HQ2 := hid HQe.out.2
              rw [← ho2] at hown2 HOut2 HQ2
              clear hd HF h0 HP HOut ho2 HE HO
              go_wp2
              clear c1 c2 c3 c4 hlw' hown'
              go_loopw [15, 23] (fun c i wx => ∃ (z c' : Nat) (o3 : List Nat), z ≤ n ∧ i = .int .i64 z ∧ c = .int .u64 c' ∧ c' ≤ 1 ∧ OwnL wx gu m1 o3 ∧ LW w wx gd nn od w4.heap.size Q oq ∧ Hid (∀ j, (j < k ∨ k + z ≤ j) → o3.getD j 0 = o2.getD j 0) ∧
                Hid (limbsVal ((o3.drop k).take z) + 4294967296 ^ z * c' = limbsVal ((o2.drop k).take z) + limbsVal (ds.take z))) (fun _ i _ => n - (intOf i).toNat)
              case atStart => exact ⟨0, 0, o2, by omega, rfl, rfl, by omega, hown2, hlw2, fun j _ => rfl, by simp [Hid, limbsVal]⟩
              case round =>
                clear hown2 hlw2 ed hb hb' hc' hu'
                obtain ⟨z, c', o3, hz, rfl, rfl, hc', hown3, hlw3, HO3, HE3⟩ := hrel
                have hol3 := hown3.1
                have hl2 : o2.length = o3.length := HL2.out.trans hol3.symm
                have HL23 := hid hl2
                clear hl2
                by_cases hlt : z < n
                · have hlt' : z < ds.length := by have := HDSL.out; omega
                  have f0 := hlw3.dcell HPre.out (j := z) hlt hlt'
                  have f1 := hdslt.out _ (List.getElem_mem hlt')
                  have HT := hid (limbsVal_take_succ ds z hlt')
                  obtain ⟨v, hv⟩ : ∃ v, v = ds[z] := ⟨_, rfl⟩
                  rw [← hv] at f0 f1 HT
                  clear hv
                  have hko : k + z < o3.length := by omega
                  have c1 := hown3.cell hko
                  have c2 := hown3.frozen (k + z)
                  obtain ⟨u, hu⟩ : ∃ u, u = o3[k + z] := ⟨_, rfl⟩
                  have hu' : u < 4294967296 := by rw [hu]; exact hown3.2.1 _ (List.getElem_mem hko)
                  have HXo := hid (show o2.getD (k + z) 0 = u by rw [← HO3.out (k + z) (.inr (by omega)), hu]; simp [List.getD, hko])
                  rw [← hu] at c1
                  clear hu
                  have HTk := hid (fun d => take_set_snoc (o := o3) (off := k) (k := z) (d := d) hko)
                  obtain ⟨lo, hlo⟩ : ∃ t : Nat, t = (c' + u + v) % 4294967296 := ⟨_, rfl⟩
                  obtain ⟨hi, hhi⟩ : ∃ t : Nat, t = (c' + u + v) / 4294967296 := ⟨_, rfl⟩
                  have hlh : lo + 4294967296 * hi = c' + u + v := by omega
                  have hlo' : lo < 4294967296 := by omega
                  have hhi' : hi ≤ 1 := by omega
                  have e1 : IntKind.u64.wrap ((c' : Int) + (u : Int)) = (c' : Int) + (u : Int) := IntWalk.u64_in _ (by omega)
                  have e2 : IntKind.u64.wrap ((c' : Int) + (u : Int) + (v : Int)) = (c' : Int) + (u : Int) + (v : Int) := IntWalk.u64_in _ (by omega)
                  have elo : ((c' : Int) + (u : Int) + (v : Int)) % 4294967296 = (lo : Int) := by omega
                  have ehi : ((c' : Int) + (u : Int) + (v : Int)) / 4294967296 = (hi : Int) := by omega
                  have hfin : limbsVal (((o3.set (k + z) lo).drop k).take (z + 1)) + 4294967296 ^ (z + 1) * hi = limbsVal ((o2.drop k).take (z + 1)) + limbsVal (ds.take (z + 1)) := by
                    have h1 := HE3.out
                    rw [HTk.out, limbsVal_snoc, take_len (by omega), HT.out, take_succ_off (by have := HL2.out; omega), limbsVal_snoc, take_len (by have := HL2.out; omega), HXo.out, Nat.pow_succ, Nat.mul_assoc]
                    have h2 : 4294967296 ^ z * lo + 4294967296 ^ z * (4294967296 * hi) = 4294967296 ^ z * c' + 4294967296 ^ z * u + 4294967296 ^ z * v := by
                      rw [← Nat.mul_add, hlh, Nat.mul_add, Nat.mul_add]
                    omega
                  have HR := hid hfin
                  clear hlh hlo hhi hfin
                  go_wp2
                  go_quiet (fail)
                  go_wp2
                  go_roundw
                  case rel =>
                    refine ⟨z + 1, hi, o3.set (k + z) lo, by omega, by go_num, rfl, hhi', (hown3.drewN _).set hko hlo', (hlw3.drewN _).set hgud hqu.symm hwu _ _, fun j hj => ?_, HR.out⟩
                    rw [← HO3.out j (by omega)]
                    simp [List.getD, List.getElem?_set, show ¬ k + z = j by omega]
                  case measure => simp [intOf]; omega
                obtain rfl : n = z := by omega
                have hko : k + n < o3.length := by omega
                have c1 := hown3.cell hko
                have c2 := hown3.frozen (k + n)
                have hkq : k < oq.length := by rw [hlw3.2.1.1]; exact hkQ
                have c3 := hlw3.2.1.cell hkq
                have c4 := hlw3.2.1.frozen k
                obtain ⟨u, hu⟩ : ∃ u, u = o3[k + n] := ⟨_, rfl⟩
                have hu' : u < 4294967296 := by rw [hu]; exact hown3.2.1 _ (List.getElem_mem hko)
                have hxo : o2.getD (k + n) 0 = u := by rw [← HO3.out (k + n) (.inr (by omega)), hu]; simp [List.getD, hko]
                rw [← hu] at c1
                clear hu
                obtain ⟨d3, hd3⟩ : ∃ d : Nat, d = (u + c') % 4294967296 := ⟨_, rfl⟩
                obtain ⟨e, he⟩ : ∃ e : Nat, e = (u + c') / 4294967296 := ⟨_, rfl⟩
                have hde : d3 + 4294967296 * e = u + c' := by omega
                have hd1' : d3 < 4294967296 := by omega
                have hdi : ((u : Int) + (c' : Int)) % 4294967296 = (d3 : Int) := by omega
                have hds : ds.take n = ds := List.take_of_length_le (by have := HDSL.out; omega)
                have hDlt : D < 4294967296 ^ n := by
                  have := limbsVal_lt hdslt.out
                  rw [← HD.out, HDSL.out] at this
                  exact this
                have hfin : limbsVal (((o3.set (k + n) d3).drop k).take (n + 1)) = U % D := by
                  have h1 := HE3.out
                  rw [hds, ← HD.out] at h1
                  have h3 := HQ2.out
                  rw [take_succ_off (by have := HL2.out; omega), limbsVal_snoc, take_len (by have := HL2.out; omega), hxo] at h3
                  have hlt3 : limbsVal (((o3.set (k + n) d3).drop k).take (n + 1)) < 4294967296 ^ (n + 1) := by
                    have hlen : (((o3.set (k + n) d3).drop k).take (n + 1)).length = n + 1 := take_len (by simp; omega)
                    have := limbsVal_lt (xs := ((o3.set (k + n) d3).drop k).take (n + 1)) (fun y hy => (hown3.set hko hd1').2.1 y (List.mem_of_mem_drop (List.mem_of_mem_take hy)))
                    rwa [hlen] at this
                  rw [take_set_snoc hko, limbsVal_snoc, take_len (by omega)] at hlt3 ⊢
                  have h2 : 4294967296 ^ n * d3 + 4294967296 ^ n * (4294967296 * e) = 4294967296 ^ n * u + 4294967296 ^ n * c' := by
                    rw [← Nat.mul_add, hde, Nat.mul_add]
                  have h4 : U % D < 4294967296 ^ n := Nat.lt_trans (Nat.mod_lt _ hDpos) hDlt
                  have h5 : 4294967296 ^ (n + 1) = 4294967296 ^ n * 4294967296 := by rw [Nat.pow_succ]
                  have h6 : 4294967296 ^ n * (4294967296 * e) = 4294967296 ^ (n + 1) * e := by rw [h5, Nat.mul_assoc]
                  have he01 : e = 0 ∨ e = 1 := by omega
                  rcases he01 with h | h
                  · subst h; omega
                  subst h; omega
                have hout : ∀ j, j < k ∨ k + n < j → (o3.set (k + n) d3).getD j 0 = o.getD j 0 := fun j hj => by
                  rw [← HOut2.out j hj, ← HO3.out j (by omega)]
                  simp [List.getD, List.getElem?_set, show ¬ k + n = j by omega]
                have HR := hid (HEND.out _ (by rw [List.length_set]; exact hol3) hout hfin)
                have hg1 : G - 1 < 4294967296 := HGl.out
                clear he hde hfin hout hds hxo hDlt hd3
                go_wp2
                go_roundw
                case rel =>
                  have h1 := HR.out
                  rw [← HGe.out] at h1
                  exact ⟨k, o3.set (k + n) d3, oq.set k (G - 1), by omega, rfl, (hlw3.2.2.setCell hwu _).setCell hwq _, (hlw3.1.other hgud _ _).other hqd _ _, (hown3.set hko hd1').other hqu _ _, (hlw3.2.1.other hqu.symm _ _).set hkq HGl.out, h1.1, h1.2⟩
                case measure => simp [intOf]
            obtain ⟨d, hd⟩ : ∃ d, d = u - (c' + b') := ⟨_, rfl⟩
            have hdl : d < 4294967296 := by omega
            have ed : IntKind.u64.wrap ((u : Int) - ((c' : Int) + (b' : Int))) = (d : Int) := by
              have : (u : Int) - ((c' : Int) + (b' : Int)) = (d : Int) := by omega
              rw [this]; exact IntWalk.u64_in _ (by omega)
            have h0 := HF.out d 0 (by omega)
            rw [Nat.mul_zero, Nat.add_zero] at h0
            have HQe := hid (knuth_end0 hDpos H2.out h0)
            have hGl : G < 4294967296 := by rw [HQe.out.1]; exact HQ32.out
            have HR := hid (HEND.out _ (by rw [List.length_set]; exact hol') (HOut.out d) HQe.out.2)
            clear hd HF h0
            go_wp2
            go_roundw
            case rel =>
              have h1 := HR.out
              rw [← HQe.out.1] at h1
              exact ⟨k, o'.set (k + n) d, oq.set k G, by omega, rfl, (hlw'.2.2.setCell hwu _).setCell hwq _, (hlw'.1.other hgud _ _).other hqd _ _, (hown'.set hko hdl).other hqu _ _, (hlw'.2.1.other hqu.symm _ _).set hkq hGl, h1.1, h1.2⟩
            case measure => simp [intOf]
set_option maxRecDepth 100000 in
theorem rfromUint_any (u : Nat) (w : World) (hu : u < 18446744073709551616) :
  Calls Tryz.prog 101 #[.int .u64 u] w fun e w' => e = .returned (.string (natStr u)) ∧ Below w.heap.size w w' := by
 have e1 : limbsVal [u % 4294967296, u / 4294967296] = u := by simp [limbsVal]; omega
 have hR : ∀ o : World, Own o w.heap.size 206 2 (fun j => .int .u32 (([u % 4294967296, u / 4294967296] : List Nat).getD j 0 : Nat)) → rSlice 1 rU32 o (LT o.heap.size) [.slice (some ⟨w.heap.size, 0, none⟩) 2 2] [u % 4294967296, u / 4294967296] := fun o ho =>
  own_limbs ho (fun _ => rfl) rfl (by omega) (by intro x hx; simp at hx; omega)
 have hO : Own (w.alloc (.cells #[.int .u32 ((u : Int) % 4294967296), .int .u32 ((u : Int) / 4294967296)] 206)) w.heap.size 206 2 (fun j => .int .u32 (([u % 4294967296, u / 4294967296] : List Nat).getD j 0 : Nat)) := by
  have := Own.new w 206 2 (fun j => .int .u32 (([u % 4294967296, u / 4294967296] : List Nat).getD j 0 : Nat))
  have e : (Array.range 2).map (fun j => Value.int .u32 (([u % 4294967296, u / 4294967296] : List Nat).getD j 0 : Nat)) = #[.int .u32 ((u : Int) % 4294967296), .int .u32 ((u : Int) / 4294967296)] := by
   apply Array.ext'
   simp [List.range_succ]
  rw [e] at this
  exact this
 have HT := hid (rtext_any _ _ _ _ (fun _ h => h) (by simp) (hR _ hO))
 rw [e1] at HT
 clear hR hO e1
 go_enter Tryz.func101, Tryz.ntmps101
 go_wp2_with fail
 refine Calls.mono HT.out ?_
 rintro e w1 ⟨rfl, hb1⟩
 go_wp2
 go_ret
 exact ⟨rfl, ((Below.refl w.heap.size w).alloc (Nat.le_refl _) _).step hb1⟩
def vRat (r : GRat) : Value := .agg #[.bool r.neg, .string r.num, .string r.den]
def sgnZ (r : GRat) : Int := if r.num.size = 0 then 0 else if r.neg = true then -1 else 1
theorem num_ne {s : ByteArray} (h : ¬ s.size = 0) : s.toList.isEmpty = false := by
 rw [ByteArray.toList_eq]
 cases hl : s.data.toList with
 | nil => exact absurd (by rw [← ByteArray.size_data, ← Array.length_toList, hl]; rfl) h
 | cons => rfl
theorem Signum_any (r : GRat) (w : World) : Calls Tryz.prog 153 #[vRat r] w fun e w' => e = .returned (.int .i64 (sgnZ r)) ∧ Below w.heap.size w w' := by
 unfold vRat
 by_cases h : r.num.size = 0
 ·have hz : r.num = { data := #[] } := ByteArray.ext (Array.eq_empty_of_size_eq_zero h)
  have hR := hid (show sgnZ r = 0 by unfold sgnZ; rw [if_pos h])
  rw [hz]
  clear h hz
  go_enter Tryz.func153, Tryz.ntmps153
  go_wp2
  go_ret
  exact ⟨ret_int hR.out.symm, (Below.refl _ _).alloc (Nat.le_refl _) _⟩
 have hz := num_ne h
 cases hn : r.neg with
 | true =>
  have hR := hid (show sgnZ r = -1 by unfold sgnZ; rw [if_neg h, if_pos hn])
  clear h hn
  go_enter Tryz.func153, Tryz.ntmps153
  go_wp2
  go_ret
  exact ⟨ret_int hR.out.symm, (Below.refl _ _).alloc (Nat.le_refl _) _⟩
 | false =>
  have hR := hid (show sgnZ r = 1 by unfold sgnZ; rw [if_neg h, if_neg (by rw [hn]; decide)])
  clear h hn
  go_enter Tryz.func153, Tryz.ntmps153
  go_wp2
  go_ret
  exact ⟨ret_int hR.out.symm, (Below.refl _ _).alloc (Nat.le_refl _) _⟩
theorem size_any (n : Int) (w : World) (h0 : -9223372036854775808 ≤ n) (h1 : n ≤ 9223372036854775807) : Calls Tryz.prog 102 #[.int .i64 n] w fun e w' => e = .returned (.int .u64 (n.natAbs : Int)) ∧ w = w' := by
 by_cases h : n < 0
 ·have e : Hid ((-(n + 1)) + 1 = (n.natAbs : Int)) := by show (-(n + 1)) + 1 = (n.natAbs : Int); omega
  go_enter Tryz.func102, Tryz.ntmps102
  go_wp2
  go_ret
  exact ⟨ret_int e.out, rfl⟩
 have e : Hid (n = (n.natAbs : Int)) := by show n = (n.natAbs : Int); omega
 go_enter Tryz.func102, Tryz.ntmps102
 go_wp2
 go_ret
 exact ⟨ret_int e.out, rfl⟩


end Go.Proofs.YtokmkopihhnggaaGreatDoor
section
/- Rational numbers as the program writes them: plain. -/
namespace Go.Proofs.YtokmkopihhnggaaGreatDoor
def sg (b : Bool) (n : Nat) : Int := if b = true then -(n : Int) else (n : Int)
theorem sg_natAbs (b : Bool) (n : Nat) : (sg b n).natAbs = n := by unfold sg; split <;> simp
theorem sg_zero (b : Bool) : sg b 0 = 0 := by unfold sg; split <;> rfl
theorem sg_neg {b : Bool} {n : Nat} (h : n ≠ 0) : (sg b n < 0) = (b = true) := by
 unfold sg; cases b <;> simp <;> omega
theorem sg_of (z : Int) : sg (decide (z < 0)) z.natAbs = z := by unfold sg; split <;> simp_all <;> omega
def bEmpty : ByteArray := { data := #[] }
theorem natStr_e : natStr 0 = bEmpty := by unfold natStr bEmpty; rw [natBytes_zero]
theorem bEmpty_size : bEmpty.size = 0 := rfl
theorem bEmpty_of {s : ByteArray} (h : s.size = 0) : s = bEmpty := ByteArray.ext (Array.eq_empty_of_size_eq_zero h)
theorem natStr_ne {n : Nat} (h : n ≠ 0) : (natStr n).size ≠ 0 := by
 rw [natStr_size, natBytes_pos h]; simp
theorem natStr_size0 {n : Nat} : (natStr n).size = 0 ↔ n = 0 := ⟨fun h => by rcases Nat.eq_zero_or_pos n with h0 | h0; exact h0; exact absurd h (natStr_ne (by omega)), fun h => by subst h; rw [natStr_e]; rfl⟩
def enc (q : Rat) : GRat := ⟨decide (q.num < 0), natStr q.num.natAbs, if q.den = 1 then bEmpty else natStr q.den⟩
theorem enc_zero : enc 0 = ⟨false, bEmpty, bEmpty⟩ := by
 unfold enc; simp [natStr_e]
theorem enc_inj {p q : Rat} (h : enc p = enc q) : p = q := by
 unfold enc at h
 injection h with h1 h2 h3
 have e2 := natStr_inj h2
 have e1 : p.num = q.num := by
  have := decide_eq_decide.1 h1
  omega
 have e3 : p.den = q.den := by
  split at h3 <;> split at h3
  ·omega
  ·have h4 := congrArg ByteArray.size h3
   exact absurd h4.symm (natStr_ne q.den_nz)
  ·have h4 := congrArg ByteArray.size h3
   exact absurd h4 (natStr_ne p.den_nz)
  exact natStr_inj h3
 exact Rat.ext e1 e3
open Classical in
noncomputable def qOf (r : GRat) : Rat := if h : ∃ q, enc q = r then h.choose else 0
theorem qOf_enc (q : Rat) : qOf (enc q) = q := by
 unfold qOf
 have h : ∃ p, enc p = enc q := ⟨q, rfl⟩
 rw [dif_pos h]
 exact enc_inj h.choose_spec
def gDen (r : GRat) : Nat := if r.den.size = 0 then 1 else strVal r.den
theorem enc_den (q : Rat) : gDen (enc q) = q.den := by
 unfold gDen enc
 by_cases h : q.den = 1
 ·simp [h, bEmpty_size]
 simp only [h, if_false]
 rw [if_neg (natStr_ne q.den_nz), strVal_natStr]
theorem enc_num (q : Rat) : strVal (enc q).num = q.num.natAbs := by unfold enc; exact strVal_natStr _
theorem enc_num0 (q : Rat) : (enc q).num.size = 0 ↔ q = 0 := by
 unfold enc
 show (natStr _).size = 0 ↔ _
 rw [natStr_size0]
 constructor
 ·intro h; exact Rat.num_eq_zero.1 (by omega)
 intro h; rw [h]; rfl
def gValid (r : GRat) : Bool :=
 decide (natStr (strVal r.num) = r.num) && decide (natStr (strVal r.den) = r.den) &&
  (if r.num.size = 0 then !r.neg && decide (r.den.size = 0) else decide (r.den.size = 0) || (decide (strVal r.den ≠ 1) && decide (Nat.gcd (strVal r.num) (strVal r.den) = 1)))
theorem gValid_enc (q : Rat) : gValid (enc q) = true := by
 have h1 : natStr (strVal (enc q).num) = (enc q).num := by rw [enc_num]; rfl
 have h2 : natStr (strVal (enc q).den) = (enc q).den := by
  unfold enc
  by_cases h : q.den = 1
  ·simp only [h, if_true]; rw [← natStr_e, strVal_natStr]
  simp only [h, if_false]; rw [strVal_natStr]
 unfold gValid
 simp only [h1, h2, decide_true, Bool.true_and]
 by_cases h0 : q = 0
 ·subst h0; rw [enc_zero]; simp [bEmpty_size]
 rw [if_neg (fun h => h0 ((enc_num0 q).1 h))]
 by_cases hd : q.den = 1
 ·simp [enc, hd, bEmpty_size]
 have e : (enc q).den = natStr q.den := by simp [enc, hd]
 rw [e, strVal_natStr, enc_num]
 simp [hd]
 right
 exact q.reduced
theorem gValid_of {r : GRat} (h : gValid r = true) : ∃ q, enc q = r := by
 unfold gValid at h
 simp only [Bool.and_eq_true, decide_eq_true_eq] at h
 obtain ⟨⟨h1, h2⟩, h3⟩ := h
 by_cases h0 : r.num.size = 0
 ·rw [if_pos h0] at h3
  simp only [Bool.and_eq_true, Bool.not_eq_true', decide_eq_true_eq] at h3
  refine ⟨0, ?_⟩
  rw [enc_zero]
  obtain ⟨n, a, b⟩ := r
  simp only at h0 h3 ⊢
  rw [h3.1, bEmpty_of h0, bEmpty_of h3.2]
 rw [if_neg h0] at h3
 have hn : strVal r.num ≠ 0 := by
  intro h; rw [h, natStr_e] at h1; rw [← h1] at h0; exact h0 rfl
 simp only [Bool.or_eq_true, Bool.and_eq_true, decide_eq_true_eq] at h3
 by_cases hd : r.den.size = 0
 ·refine ⟨⟨sg r.neg (strVal r.num), 1, by decide, by simp [Nat.Coprime]⟩, ?_⟩
  unfold enc
  simp only [sg_natAbs, sg_neg hn, if_true, h1]
  obtain ⟨n, a, b⟩ := r
  simp only at hd ⊢
  rw [bEmpty_of hd]; simp
 have h4 := h3.resolve_left hd
 have hd0 : strVal r.den ≠ 0 := by
  intro h; rw [h, natStr_e] at h2; rw [← h2] at hd; exact hd rfl
 refine ⟨⟨sg r.neg (strVal r.num), strVal r.den, hd0, by rw [sg_natAbs]; exact h4.2⟩, ?_⟩
 unfold enc
 simp only [sg_natAbs, sg_neg hn, if_neg h4.1, h1, h2]
 obtain ⟨n, a, b⟩ := r
 simp
theorem qOf_bad {r : GRat} (h : gValid r = false) : qOf r = 0 := by
 unfold qOf
 rw [dif_neg]
 rintro ⟨q, rfl⟩
 rw [gValid_enc] at h
 cases h
theorem qOf_ok {r : GRat} (h : gValid r = true) : enc (qOf r) = r := by
 obtain ⟨q, rfl⟩ := gValid_of h
 rw [qOf_enc]
theorem enc_mkRat {neg : Bool} {n d : Nat} (hn : n ≠ 0) (hd : d ≠ 0) : enc (mkRat (sg neg n) d) = ⟨neg, natStr (n / Nat.gcd n d), if d / Nat.gcd n d = 1 then bEmpty else natStr (d / Nat.gcd n d)⟩ := by
 have hg : 0 < Nat.gcd n d := Nat.gcd_pos_of_pos_left _ (by omega)
 have hq : n / Nat.gcd n d ≠ 0 := by
  have := Nat.div_pos (Nat.gcd_le_left d (by omega : 0 < n)) hg
  omega
 have e1 : (mkRat (sg neg n) d).num = sg neg (n / Nat.gcd n d) := by
  rw [Rat.num_mkRat, if_neg hd, sg_natAbs, Nat.gcd_comm]
  unfold sg
  split
  ·rw [Int.neg_ediv_of_dvd (Int.natCast_dvd_natCast.2 (Nat.gcd_dvd_left n d))]; rfl
  rfl
 have e2 : (mkRat (sg neg n) d).den = d / Nat.gcd n d := by
  rw [Rat.den_mkRat, if_neg hd, sg_natAbs, Nat.gcd_comm]
 unfold enc
 rw [e1, e2, sg_natAbs]
 simp only [sg_neg hq]
 simp
def qB (n : Nat) (q : Rat) : Prop := q.num.natAbs < 256 ^ n ∧ q.den < 256 ^ n
theorem qB.mono {m n : Nat} {q : Rat} (h : qB m q) (hm : m ≤ n) : qB n q :=
 have := Nat.pow_le_pow_right (show 0 < 256 by decide) hm
 ⟨Nat.lt_of_lt_of_le h.1 this, Nat.lt_of_lt_of_le h.2 this⟩
theorem qB_zero : qB 1 0 := by unfold qB; simp
theorem qB_mkRat {n : Nat} {z : Int} {d : Nat} (hz : z.natAbs < 256 ^ n) (hd : d < 256 ^ n) (hn : 0 < n) : qB n (mkRat z d) := by
 have h1 : 1 < 256 ^ n := Nat.one_lt_pow (by omega) (by decide)
 by_cases h : d = 0
 ·subst h; rw [Rat.mkRat_zero]; exact qB_zero.mono hn
 constructor
 ·rw [Rat.num_mkRat, if_neg h]
  refine Nat.lt_of_le_of_lt ?_ hz
  have hdv : ((d.gcd z.natAbs : Nat) : Int) ∣ z := Int.ofNat_dvd_left.2 (Nat.gcd_dvd_right _ _)
  rw [Int.natAbs_ediv_of_dvd hdv]
  exact Nat.div_le_self _ _
 rw [Rat.den_mkRat, if_neg h]
 exact Nat.lt_of_le_of_lt (Nat.div_le_self _ _) hd
theorem pow_mul_lt {a b m n : Nat} (ha : a < 256 ^ m) (hb : b < 256 ^ n) : a * b < 256 ^ (m + n) := by
 rw [Nat.pow_add]; exact Nat.mul_lt_mul'' ha hb
theorem qB.pos {n : Nat} {q : Rat} (h : qB n q) : 0 < n := by
 rcases Nat.eq_zero_or_pos n with h0 | h0
 ·subst h0; have := h.2; have := q.den_nz; omega
 exact h0
theorem qB.add {m n : Nat} {p q : Rat} (hp : qB m p) (hq : qB n q) : qB (m + n + 1) (p + q) := by
 rw [Rat.add_def']
 have h1 := pow_mul_lt hp.1 hq.2
 have h2 := pow_mul_lt hq.1 hp.2
 have h3 := pow_mul_lt hp.2 hq.2
 have e : 256 ^ (m + n + 1) = 256 ^ (m + n) * 256 := Nat.pow_succ ..
 rw [Nat.add_comm n m] at h2
 refine qB_mkRat ?_ (by rw [e]; omega) (by omega)
 refine Nat.lt_of_le_of_lt (Int.natAbs_add_le _ _) ?_
 rw [Int.natAbs_mul, Int.natAbs_mul, Int.natAbs_natCast, Int.natAbs_natCast, e]
 omega
theorem qB.mul {m n : Nat} {p q : Rat} (hp : qB m p) (hq : qB n q) : qB (m + n) (p * q) := by
 rw [Rat.mul_def']
 have := hp.pos
 refine qB_mkRat ?_ (pow_mul_lt hp.2 hq.2) (by omega)
 rw [Int.natAbs_mul]
 exact pow_mul_lt hp.1 hq.1
theorem qB.neg {n : Nat} {q : Rat} (h : qB n q) : qB n (-q) := by
 unfold qB
 rw [Rat.neg_num, Rat.neg_den, Int.natAbs_neg]; exact h
theorem qB.sub {m n : Nat} {p q : Rat} (hp : qB m p) (hq : qB n q) : qB (m + n + 1) (p - q) := by
 rw [Rat.sub_eq_add_neg]; exact hp.add hq.neg
theorem strVal_zero_of {s : ByteArray} (h : s.size = 0) : strVal s = 0 := by rw [bEmpty_of h]; rfl
theorem enc_size {n : Nat} {q : Rat} (h : qB n q) : (enc q).num.size ≤ n ∧ (enc q).den.size ≤ n := by
 constructor
 ·show (natStr _).size ≤ n
  rw [natStr_size]; exact natBytes_len_le h.1
 unfold enc
 simp only
 split
 ·exact Nat.zero_le _
 rw [natStr_size]; exact natBytes_len_le h.2
theorem qB_qOf {n : Nat} {r : GRat} (hn : 0 < n) (h1 : r.num.size ≤ n) (h2 : r.den.size ≤ n) : qB n (qOf r) := by
 by_cases h : gValid r = true
 ·have e := qOf_ok h
  have a := enc_num (qOf r)
  have b := enc_den (qOf r)
  rw [e] at a b
  have p1 := Nat.pow_le_pow_right (show 0 < 256 by decide) h1
  have p2 := Nat.pow_le_pow_right (show 0 < 256 by decide) h2
  have q1 := strVal_lt r.num
  have q2 := strVal_lt r.den
  have h1 : 1 < 256 ^ n := Nat.one_lt_pow (by omega) (by decide)
  refine ⟨by omega, ?_⟩
  rw [← b]
  unfold gDen
  split <;> omega
 rw [qOf_bad (by simpa using h)]
 exact qB_zero.mono hn
end Go.Proofs.YtokmkopihhnggaaGreatDoor
end
section
/- Rational numbers: what sums, products and quotients of numerators and denominators are: plain. -/
namespace Go.Proofs.YtokmkopihhnggaaGreatDoor
def qNeg (q : Rat) : Bool := decide (q.num < 0)
theorem qNeg_sg (q : Rat) : sg (qNeg q) q.num.natAbs = q.num := sg_of _
theorem sg_add_same (b : Bool) (x y : Nat) : sg b x + sg b y = sg b (x + y) := by unfold sg; cases b <;> simp <;> omega
theorem sg_add_lt {b c : Bool} {x y : Nat} (h : b ≠ c) (hxy : x < y) : sg b x + sg c y = sg c (y - x) := by
 unfold sg; cases b <;> cases c <;> simp at * <;> omega
theorem sg_add_ge {b c : Bool} {x y : Nat} (h : b ≠ c) (hxy : y ≤ x) : sg b x + sg c y = sg b (x - y) := by
 unfold sg; cases b <;> cases c <;> simp at * <;> omega
theorem sg_mul_nat (b : Bool) (x d : Nat) : sg b x * (d : Int) = sg b (x * d) := by unfold sg; cases b <;> simp [Int.neg_mul]
theorem qadd_sg (p q : Rat) : p + q = mkRat (sg (qNeg p) (p.num.natAbs * q.den) + sg (qNeg q) (q.num.natAbs * p.den)) (p.den * q.den) := by
 rw [Rat.add_def', ← sg_mul_nat, ← sg_mul_nat, qNeg_sg, qNeg_sg]
theorem qadd_sg' {p q : Rat} (h : p.den = q.den) : p + q = mkRat (sg (qNeg p) p.num.natAbs + sg (qNeg q) q.num.natAbs) p.den := by
 rw [Rat.add_def', qNeg_sg, qNeg_sg, ← h, ← Int.add_mul, Rat.mkRat_mul_right p.den_nz]
theorem qadd_same {p q : Rat} (h : qNeg p = qNeg q) : p + q = mkRat (sg (qNeg p) (p.num.natAbs * q.den + q.num.natAbs * p.den)) (p.den * q.den) := by
 rw [qadd_sg, ← h, sg_add_same]
theorem qadd_lt {p q : Rat} (h : qNeg p ≠ qNeg q) (hl : p.num.natAbs * q.den < q.num.natAbs * p.den) : p + q = mkRat (sg (qNeg q) (q.num.natAbs * p.den - p.num.natAbs * q.den)) (p.den * q.den) := by
 rw [qadd_sg, sg_add_lt h hl]
theorem qadd_ge {p q : Rat} (h : qNeg p ≠ qNeg q) (hl : q.num.natAbs * p.den ≤ p.num.natAbs * q.den) : p + q = mkRat (sg (qNeg p) (p.num.natAbs * q.den - q.num.natAbs * p.den)) (p.den * q.den) := by
 rw [qadd_sg, sg_add_ge h hl]
theorem qadd_same' {p q : Rat} (hd : p.den = q.den) (h : qNeg p = qNeg q) : p + q = mkRat (sg (qNeg p) (p.num.natAbs + q.num.natAbs)) p.den := by
 rw [qadd_sg' hd, ← h, sg_add_same]
theorem qadd_lt' {p q : Rat} (hd : p.den = q.den) (h : qNeg p ≠ qNeg q) (hl : p.num.natAbs < q.num.natAbs) : p + q = mkRat (sg (qNeg q) (q.num.natAbs - p.num.natAbs)) p.den := by
 rw [qadd_sg' hd, sg_add_lt h hl]
theorem qadd_ge' {p q : Rat} (hd : p.den = q.den) (h : qNeg p ≠ qNeg q) (hl : q.num.natAbs ≤ p.num.natAbs) : p + q = mkRat (sg (qNeg p) (p.num.natAbs - q.num.natAbs)) p.den := by
 rw [qadd_sg' hd, sg_add_ge h hl]
def qCmp (p q : Rat) : Int := if p < q then -1 else if q < p then 1 else 0
theorem qNeg_iff (q : Rat) : qNeg q = true ↔ q < 0 := by
 unfold qNeg
 rw [decide_eq_true_iff, Rat.lt_iff]
 simp
theorem qpos_iff (q : Rat) : (qNeg q = false ∧ q ≠ 0) ↔ 0 < q := by
 rw [← Bool.not_eq_true, qNeg_iff, Rat.not_lt]
 constructor
 ·rintro ⟨h1, h2⟩; exact Rat.lt_of_le_of_ne h1 (fun h => h2 h.symm)
 intro h; exact ⟨Rat.le_of_lt h, Rat.ne_of_gt h⟩
def gSgn (r : GRat) : Int := if r.num.size = 0 then 0 else if r.neg = true then -1 else 1
def qSgn (q : Rat) : Int := qCmp q 0
theorem gSgn_enc (q : Rat) : gSgn (enc q) = qSgn q := by
 unfold gSgn qSgn qCmp
 by_cases h0 : q = 0
 ·rw [if_pos ((enc_num0 q).2 h0)]; subst h0
  simp [Rat.lt_irrefl]
 rw [if_neg (fun h => h0 ((enc_num0 q).1 h))]
 show (if qNeg q = true then _ else _) = _
 by_cases h : qNeg q = true
 ·rw [if_pos h, if_pos ((qNeg_iff q).1 h)]
 rw [if_neg h, if_neg (fun h' => h ((qNeg_iff q).2 h')), if_pos ((qpos_iff q).1 ⟨by simpa using h, h0⟩)]
theorem enc_int (z : Int) : enc (z : Rat) = ⟨decide (z < 0), natStr z.natAbs, bEmpty⟩ := by
 simp only [enc, Rat.num_intCast, Rat.den_intCast, if_true]
 rfl
end Go.Proofs.YtokmkopihhnggaaGreatDoor
end
namespace Go.Proofs.YtokmkopihhnggaaGreatDoor
open Go.RowKit
theorem limbsOf_1 : limbsOf 1 = [1] := by rw [limbsOf_pos (by decide)]; simp [limbsOf_zero]
end Go.Proofs.YtokmkopihhnggaaGreatDoor
