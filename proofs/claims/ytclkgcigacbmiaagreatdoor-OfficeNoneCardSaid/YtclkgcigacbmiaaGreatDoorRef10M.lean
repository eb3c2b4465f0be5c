/- insolvencyref1: long: walked. -/
import Derived.Test.YtclkgcigacbmiaaGreatDoorNat19M
import Derived.StillTailTactics
import Derived.Test.YtclkgcigacbmiaaGreatDoorNat7M
import Derived.Handy
import Derived.Test.YtclkgcigacbmiaaGreatDoorBaseM
import Derived.Test.YtclkgcigacbmiaaGreatDoorEv4M
import Derived.Deep.DeepCutAuto
import Derived.Deep.DrawnRows
import Derived.Deep.QuietTactic
import Derived.BigQuiet
set_option linter.unusedVariables false
set_option maxHeartbeats 2000000
set_option maxRecDepth 100000
set_option linter.unusedSimpArgs false
namespace Go.Proofs.YtclkgcigacbmiaaGreatDoor
open Go.RowKit Go.Proofs.Tryz
theorem yd (t:Nat) (h:t<18446744073709551616):bits .and .u64 (t:Int) 4294967295=((t%4294967296:Nat):Int):=by
 have h1:=bits_and_u64_nat t 4294967295 h (by decide);have h2:t&&&4294967295=t%4294967296:=Nat.and_two_pow_sub_one_eq_mod t 32;rw [h2] at h1;exact h1
def LW (w wr:World) (gd nn:Nat) (od:List Nat) (gq Q:Nat) (oq:List Nat):Prop:=OwnL wr gd nn od/\OwnL wr gq Q oq/\Below w.heap.size w wr
theorem LW.set {w wr:World} {gd nn:Nat} {od:List Nat} {gq Q:Nat} {oq:List Nat} (h:LW w wr gd nn od gq Q oq) {gu:Nat} (h1:gu≠gd) (h2:gu≠gq) (h3:w.heap.size<=gu) (p:Nat) (v:Value):LW w (wr.setCell ⟨gu,p,none⟩ v) gd nn od gq Q oq:=
 ⟨h.1.other h1 p v,h.2.1.other h2 p v,h.2.2.setCell h3 v⟩
theorem LW.drewN {w wr:World} {gd nn:Nat} {od:List Nat} {gq Q:Nat} {oq:List Nat} (h:LW w wr gd nn od gq Q oq) (k:Nat):LW w (wr.drewN k) gd nn od gq Q oq:=⟨h.1,h.2.1,h.2.2.drewN k⟩
def Pre (od ds:List Nat) (n:Nat):Prop:=∀j (_:j<n),∃h1 h2,od[j]'h1=ds[j]'h2
theorem LW.dcell {w wr:World} {gd nn:Nat} {od:List Nat} {gq Q:Nat} {oq:List Nat} (h:LW w wr gd nn od gq Q oq) {ds:List Nat} {n:Nat} (hp:Pre od ds n) {j:Nat} (hj:j<n) (hl:j<ds.length):wr.cell? ⟨gd,j,none⟩=some (.int .u32 (ds[j]:Nat)):=by
 obtain ⟨h1,h2,h3⟩:=hp j hj;have:=h.1.cell h1;rw [h3] at this;exact this
theorem pV (S : Nat → Prop) (u v : Value) (x y : Nat) (w : World) (hS : ∀ b, S b → b < w.heap.size) (hl : (ab x).length ≤ 999999999999) (hxy : y ≤ x) (hy2 : 2 ≤ (ab y).length) (hu : al 1 aE w S [u] (ab x)) (hv : al 1 aE w S [v] (ab y)) :
    Calls prog 346 #[u, v] w fun e w' => ∃ q r, e = .returned (.tuple #[q, r]) ∧ al 1 aE w' (LT w'.heap.size) [q] (ab (x / y)) ∧ al 1 aE w' (LT w'.heap.size) [r] (ab (x % y)) ∧ Below w.heap.size w w' := by
  have hnm : (ab y).length ≤ (ab x).length := by
    apply aW
    have := ax (aB x)
    rw [ah] at this
    omega
  have hu' := hid hu
  have hv' := hid hv
  have hUU := fun (w' : World) (hb : Below w.heap.size w w') => (aq ay) _ _ _ _ _ _ hu (fun b h => hb.block b (hS b h)) fun b h => Nat.lt_of_lt_of_le (hS b h) hb.size
  have hVV := fun (w' : World) (hb : Below w.heap.size w w') => (aq ay) _ _ _ _ _ _ hv (fun b h => hb.block b (hS b h)) fun b h => Nat.lt_of_lt_of_le (hS b h) hb.size
  have HU := hid hUU
  have HV := hid hVV
  clear hUU hVV
  have hxW : x < 4294967296 ^ (ab x).length := by
    have := ax (aB x)
    rwa [ah] at this
  obtain ⟨xa, xc, rfl, x1, x2, x3, x4⟩ := aw hu
  obtain ⟨ya, yc, rfl, y1, y2, y3, y4⟩ := aw hv
  obtain ⟨n, hn⟩ : ∃ n, n = (ab y).length := ⟨_, rfl⟩
  obtain ⟨m, hm⟩ : ∃ m, m = (ab x).length := ⟨_, rfl⟩
  rw [← hm] at hxW hl hnm
  rw [← hn] at hnm hy2
  rcases y4 with y4 | ⟨vb, voff, rfl, y4⟩
  · rw [y4] at hn; simp at hn; omega
  have hn1 : n - 1 < (ab y).length := by omega
  have g0 := (y4.u32 hn1).1
  have hvS := hS vb y4.1
  have htW : (ab y)[n - 1] < 4294967296 := aB y _ (List.getElem_mem hn1)
  obtain ⟨t, ht⟩ : ∃ t, t = (ab y)[n - 1] := ⟨_, rfl⟩
  rw [← ht] at g0 htW
  have htD : t = (ab y).getD (n - 1) 0 := by rw [ht]; simp [List.getD, hn1]
  obtain ⟨s, hs⟩ : ∃ s, s = 32 - Lib.bitLen t := ⟨_, rfl⟩
  obtain ⟨hs32, hD1, hD2⟩ := mG hn.symm (by omega) htD hs
  have ht0 : 0 < t := by
    have := gp (n := y) (by intro h; rw [h, aF] at hn; simp at hn; omega)
    rw [← hn, ← htD] at this; exact this
  have hy0 : 0 < y := by
    rcases Nat.eq_zero_or_pos y with h | h
    · rw [h, aF] at hn; simp at hn; omega
    exact h
  have hbl : Lib.bitLen t ≤ 32 := Lib.bitLen_le t 32 (by decide) htW
  have HLS := hid (fun s' (h : s' ≤ s) => mN ht0 htW hs h)
  have hmk := fun (w : World) => bo (P := prog) underlying312 Tryz.infoU32 rfl w (m - n + 1) (by omega) (by omega)
  have hX1 : x * 2 ^ s < 4294967296 ^ (m + 1) := by
    have := ee hs32
    rw [Nat.pow_succ]
    calc x * 2 ^ s < 4294967296 ^ m * 2 ^ s := Nat.mul_lt_mul_of_pos_right hxW (Nat.pow_pos (by decide))
      _ ≤ _ := Nat.mul_le_mul_left _ (by omega)
  have HN := hid (show _ ∧ _ ∧ _ ∧ _ from ⟨hD1, hD2, hX1, hxW⟩)
  clear hD1 hD2 hX1 hxW htD hs hbl hu hv
  rw [← hn] at y1
  rw [← hm] at x1
  have HMN := hid (show _ ∧ _ from ⟨hm, hn⟩)
  obtain ⟨rr, hrr⟩ : ∃ r, r = m - n := ⟨_, rfl⟩
  obtain ⟨Q, hQ⟩ : ∃ r, r = m - n + 1 := ⟨_, rfl⟩
  obtain ⟨m1, hm1⟩ : ∃ r, r = m + 1 := ⟨_, rfl⟩
  simp only [← hQ] at hmk
  have hmn1 : ((m : Int) - (n : Int)) = (rr : Int) := by omega
  have hmn2 : ((rr : Int) + 1) = (Q : Int) := by omega
  have hmn3 : ((Q : Int) - 1) = (rr : Int) := by omega
  have hm1' : ((m : Int) + 1) = (m1 : Int) := by omega
  have hnn1 : ((n : Int) - 1) = ((n - 1 : Nat) : Int) := by omega
  rw [← hn] at hv' HV ⊢
  rw [← hm] at hu' HU ⊢
  have hm1b : m1 ≤ 1000000000000 := by omega
  have hQb : Q ≤ 1000000000000 := by omega
  have HM1 := hid hm1
  have HQ := hid hQ
  clear hm1 hQ hrr
  have hne1 : ¬ ((n : Int) = 1) := by omega
  clear ht hm hn y4 x4 hv' hu'
  go_enter func346, ntmps346
  go_wp2
  go_loop [7] (fun c => ∃ s' : Nat, s' ≤ s ∧ c = .int .u64 (s' : Int)) (fun c => s - (intOf c).toNat)
  case atStart => exact ⟨0, Nat.zero_le _, rfl⟩
  case round =>
    obtain ⟨s', hs', rfl⟩ := hrel
    obtain ⟨l1, l2, l3⟩ := HLS.out s' hs'
    have e1 : (t : Int) * 2 ^ s' = ((t * 2 ^ s' : Nat) : Int) := by rw [Int.natCast_mul, Int.natCast_pow]; rfl
    obtain ⟨z, hz⟩ : ∃ z, z = t * 2 ^ s' := ⟨_, rfl⟩
    rw [← hz] at l1 l2 l3 e1
    have hs32' : s' < 32 := by omega
    have q0 : (z : Int) % 4294967296 = (z : Int) := by omega
    have q1 : IntKind.u32.wrap (z : Int) = (z : Int) := by rw [IntKind.wrap_u32]; omega
    have HTW := hid htW
    rw [← e1] at q0 q1
    clear hz l1 htW
    by_cases hlt : s' < s
    · have hz1 := l2 hlt
      have q3 : IntKind.u64.wrap ((s' : Int) + 1) = (s' : Int) + 1 := IntWalk.u64_in _ (by omega)
      have q2 : (t : Int) * 2 ^ s' < 2147483648 := by rw [e1]; omega
      clear l2 l3 hz1 e1
      go_wp2
      clear q0 q1 q2 q3
      go_round
      case rel => exact ⟨s' + 1, hlt, by go_num⟩
      case measure => simp [intOf]; omega
    have hss : s' = s := by omega
    subst hss
    have hz1 := l3 rfl
    have q2 : ¬ ((t : Int) * 2 ^ s' < 2147483648) := by rw [e1]; omega
    clear l2 l3 hlt hs' hz1 e1
    have hS1 := iu _ _ _ s' w (fun _ h => h) (by rw [← HMN.out.1]; omega) hs32 (HU.out w (Below.refl _ _))
    rw [ah, ← HMN.out.1, ← HM1.out] at hS1
    have HS1 := hid hS1
    clear hS1
    go_wp2_with fail
    refine Calls.mono HS1.out ?_
    rintro e w3 ⟨gu, ou, rfl, hgu, hou, huv, hb3⟩
    have HUV := hid huv
    have hn1' := hid (show n + 1 ≤ 1000000000000 by omega)
    obtain ⟨nn, hnn⟩ : ∃ nn, nn = n + 1 := ⟨_, rfl⟩
    have hS2 := iu _ _ _ s' w3 (fun _ h => h) (by rw [← HMN.out.2]; omega) hs32 (HV.out w3 hb3)
    rw [ah, ← HMN.out.2, ← hnn] at hS2
    have HS2 := hid hS2
    have hnn2 : n ≤ nn := by omega
    have HNN := hid hnn
    clear hS2 huv HS1 hnn
    go_wp2_with fail
    refine Calls.mono HS2.out ?_
    rintro e w4 ⟨gd, od, rfl, hgd, hod, hdv, hb4⟩
    have HDV := hid hdv
    clear hdv HS2
    have hgu3 := hou.lt
    have hou4 := hou.below hb4 hgu3
    have hgd4 := hod.lt
    have hb14 := hb3.step hb4
    go_wp2
    clear hmk HLS HU HV
    have HQ' := hid (show Q + n = m1 by have := HQ.out; have := HM1.out; omega)
    have hrq : rr + 1 = Q := by omega
    have HD0 := hid (show 0 < y * 2 ^ s' from Nat.mul_pos hy0 (Nat.pow_pos (by decide)))
    have hgud : gu ≠ gd := by omega
    have hqu : w4.heap.size ≠ gu := by omega
    have hqd : w4.heap.size ≠ gd := by omega
    have hwq : w.heap.size ≤ w4.heap.size := hb14.size
    have hwu : w.heap.size ≤ gu := by omega
    have hdrop := drop_zero (o := od) (n := n) (by rw [hod.1]; omega) (by rw [HDV.out]; exact HN.out.1)
    obtain ⟨ds, hds⟩ : ∃ ds, ds = od.take n := ⟨_, rfl⟩
    have hdsl : ds.length = n := by rw [hds]; simp [hod.1]; omega
    have hdsv := hid (show aa ds = y * 2 ^ s' by rw [hds, hdrop.2]; exact HDV.out)
    have hdslt := hid (show ∀ x ∈ ds, x < 4294967296 from fun x hx => hod.2.1 x (by rw [hds] at hx; exact List.mem_of_mem_take hx))
    have hdsg := hid (show ∀ j (h : j < n), ∃ h1 h2, od[j]'h1 = ds[j]'h2 from fun j h => ⟨by rw [hod.1]; omega, by omega, by subst hds; simp⟩)
    have HDSL := hid hdsl
    clear hdrop hds hdsl q0 q1 q2
    go_loopw [11, 12, 13, 14, 15, 16, 17, 18, 19, 20, 21, 22, 23] (fun i _ _ _ _ _ _ _ _ _ _ _ _ wr => ∃ (k : Nat) (ou oq : List Nat), k ≤ Q ∧ i = .int .i64 ((k : Int) - 1) ∧ Below w.heap.size w wr ∧ OwnL wr gd nn od ∧ OwnL wr gu m1 ou ∧ OwnL wr w4.heap.size Q oq ∧
      Hid (aa (ou.drop k) < y * 2 ^ s') ∧ Hid (x * 2 ^ s' = aa (oq.drop k) * 4294967296 ^ k * (y * 2 ^ s') + aa ou)) (fun i _ _ _ _ _ _ _ _ _ _ _ _ _ => (intOf i + 1).toNat)
    case atStart =>
      refine ⟨Q, ou, _, Nat.le_refl _, by rw [show (Q : Int) - 1 = (rr : Int) by omega], hb14.alloc hwq _, hod.alloc _, hou4.alloc _, OwnL.new _ _, ?_, ?_⟩
      · show aa (ou.drop Q) < _
        rw [HQ.out]
        exact kk HN.out.2.2.2 rfl hs32 (by omega) hnm HN.out.2.1 (by rw [hou.1]; exact HM1.out) hou.2.1 HUV.out
      show x * 2 ^ s' = _
      rw [HUV.out, List.drop_of_length_le (by simp)]
      simp [aa]
    case round =>
      obtain ⟨k, o, oq, hk, rfl, hbw, hod', hou', hoq', HI, HX⟩ := hrel
      cases k with
      | zero =>
        rw [show (((0 : Nat) : Int) - 1) = -1 from rfl]
        have hx1 := HX.out
        have hx2 := HI.out
        rw [List.drop_zero] at hx1 hx2
        obtain ⟨hq1, hr1⟩ := oT hy0 hx1 hx2
        have hoW : aa o < 4294967296 ^ n := Nat.lt_trans hx2 HN.out.1
        have HE0 := hid (show aa oq = x / y ∧ aa o / 2 ^ s' = x % y ∧ aa o < 4294967296 ^ n from ⟨hq1, hr1, hoW⟩)
        clear hx1 hx2 hq1 hr1 hoW HI HX hod'
        obtain ⟨wo, rfl⟩ : ∃ wo : World, wo = wr := ⟨_, rfl⟩
        have hmk2 := fun (w : World) => bo (P := prog) underlying312 Tryz.infoU32 rfl w n (by omega) (by omega)
        have hou1 := hou'.alloc (.cells ((Array.range n).map fun _ => Value.int .u32 0) 233)
        have hoq1 := hoq'.alloc (.cells ((Array.range n).map fun _ => Value.int .u32 0) 233)
        have hguo := hou'.lt
        have hgqo := hoq'.lt
        have hnr1 : wo.heap.size ≠ gu := by omega
        have hnr2 : wo.heap.size ≠ w4.heap.size := by omega
        have hbws := hbw.size
        have HQn := hid (show Q ≤ 1000000000000 ∧ n ≤ 1000000000000 ∧ n + 1 ≤ m1 from ⟨by omega, by omega, by have := HM1.out; omega⟩)
        go_wp2
        clear hmk2
        go_loopw [25] (fun i wx => ∃ (z : Nat) (r : List Nat), z ≤ n ∧ i = .int .i64 z ∧ Below w.heap.size w wx ∧ OwnL wx gu m1 o ∧ OwnL wx w4.heap.size Q oq ∧ OwnL wx wo.heap.size n r ∧ Hid (∀ j, j < z → r.getD j 0 = aa o / 2 ^ s' / 4294967296 ^ j % 4294967296)) (fun i _ => n - (intOf i).toNat)
        case atStart => exact ⟨0, _, Nat.zero_le _, rfl, hbw.alloc hbws _, hou1, hoq1, OwnL.new _ _, fun j hj => by omega⟩
        case round =>
          clear hou1 hoq1
          obtain ⟨z, r, hz, rfl, hbx, hox, hqx, hrx, HE⟩ := hrel
          by_cases hlt : z < n
          · have hz0 : z < o.length := by rw [hou'.1]; have := HQn.out.2.2; omega
            have hz1 : z + 1 < o.length := by rw [hou'.1]; have := HQn.out.2.2; omega
            have hzm : z + 1 < m1 := by have := HQn.out.2.2; omega
            have HDG := hid (fx hox.2.1 z s' hz0 hs32)
            have ey : o.getD (z + 1) 0 = o[z + 1] := by simp [List.getD, hz1]
            rw [ey] at HDG
            have g1 := hox.2.1 _ (List.getElem_mem hz0)
            have f1 := hox.2.1 _ (List.getElem_mem hz1)
            obtain ⟨a, ha⟩ : ∃ a, a = o[z] := ⟨_, rfl⟩
            obtain ⟨b, hb⟩ : ∃ b, b = o[z + 1] := ⟨_, rfl⟩
            rw [← ha] at g1 HDG
            rw [← hb] at f1 HDG
            have Ha := hid ha
            have Hb := hid hb
            clear ha hb ey
            have o1 := dl b a f1 g1
            obtain ⟨d, hd⟩ : ∃ d : Nat, d = (b * 4294967296 + a) / 2 ^ s' % 4294967296 := ⟨_, rfl⟩
            have hd1 : d < 4294967296 := by rw [hd]; exact Nat.mod_lt _ (by decide)
            have HV := hid (show ((b : Int) * 4294967296 + (a : Int)) / 2 ^ s' % 4294967296 = (d : Int) by
              rw [hd, Int.natCast_emod, Int.natCast_ediv, Int.natCast_pow, Int.natCast_add, Int.natCast_mul]
              rfl)
            rw [HDG.out] at hd
            have HD2 := hid hd
            clear hd HDG
            have hzr : z < r.length := by rw [hrx.1]; exact hlt
            obtain ⟨wd, hwd⟩ : ∃ wd : World, wd = wr.drew := ⟨_, rfl⟩
            have hbd : Below w.heap.size w wd := by rw [hwd]; exact Below.drew hbx
            have hod : OwnL wd gu m1 o := by rw [hwd]; exact hox
            have hqd' : OwnL wd w4.heap.size Q oq := by rw [hwd]; exact hqx
            have hrd : OwnL wd wo.heap.size n r := by rw [hwd]; exact hrx
            have c1 := hod.cell hz0
            have c2 := hod.cell hz1
            rw [← Ha.out] at c1
            rw [← Hb.out] at c2
            have c3 := hrd.cell hzr
            have c4 := hrd.frozen z
            have HWD := hid hwd
            have hwz : w.heap.size ≤ wo.heap.size := hbws
            clear hwd hox hqx hrx hbx
            have w1 : IntKind.i64.wrap ((z : Int) + 1) = (z : Int) + 1 := IntWalk.i64_in _ (by omega)
            have b1 : (0 : Int) ≤ (z : Int) + 1 := by omega
            have b2 : (z : Int) + 1 < (m1 : Int) := by omega
            have b3 : ((z : Int) + 1).toNat = z + 1 := by omega
            have b4 : z < m1 := by omega
            go_wp2
            refine wp_region_still_tail 19 (by kernel_rfl) (by kernel_rfl) ?_
            change wpStill _ _ wr.drew (fun a' => wpList _ _ _ _ a' wr.drew) _ _
            rw [← HWD.out]
            simp only [List.take_succ_cons, List.take_zero, List.drop_succ_cons, List.drop_zero]
            repeat still_step
            refine wpStill_nil ?_
            clear w1 b1 b2 b3
            go_wp2
            go_roundw
            case rel =>
              rw [HV.out]
              refine ⟨z + 1, r.set z d, by omega, by go_num, hbd.setCell hwz _, hod.other hnr1 _ _, hqd'.other hnr2 _ _, hrd.set hzr hd1, fun j hj => ?_⟩
              by_cases hjk : j = z
              · subst hjk; rw [← HD2.out]; simp [List.getD, hzr]
              rw [← HE.out j (by omega)]; simp [List.getD, show ¬ z = j by omega]
            case measure => simp [intOf]; omega
          obtain rfl : n = z := by omega
          have hre : r = bh n (aa o / 2 ^ s') := by
            apply List.ext_getElem?
            intro j
            by_cases hj : j < n
            · have h1 := HE.out j hj
              rw [cn _ _ _ hj, ← h1]
              have : j < r.length := by rw [hrx.1]; exact hj
              simp [List.getD, this]
            rw [List.getElem?_eq_none (by rw [hrx.1]; omega), List.getElem?_eq_none (by rw [bc]; omega)]
          have hval : aa r = x % y := by
            rw [hre, d9, Nat.mod_eq_of_lt]
            · exact HE0.out.2.1
            exact Nat.lt_of_le_of_lt (Nat.div_le_self _ _) HE0.out.2.2
          have hS1 := dR _ _ _ _ (hqx.slice (by have := HQn.out.1; omega))
          rw [HE0.out.1] at hS1
          have hS2 := dR _ _ _ _ (hrx.slice (by have := HQn.out.2.1; omega))
          rw [hval] at hS2
          have HS1 := hid hS1
          have HS2 := hid hS2
          clear hS1 hS2 hre hval
          go_wp2_with fail
          refine Calls.mono HS1.out ?_
          rintro e w5 ⟨q, rfl, rfl, hq⟩
          go_wp2_with fail
          refine Calls.mono HS2.out ?_
          rintro e w5 ⟨r', rfl, rfl, hr⟩
          go_wp2
          go_ret2
          exact ⟨_, _, rfl, hq, hr, hbx⟩
      | succ k =>
        rw [show (((k + 1 : Nat) : Int) - 1) = (k : Int) by omega]
        have hkQ : k < Q := by omega
        have hkm : k + n < m1 := by have := HQ'.out; omega
        have hlw : LW w wr gd nn od w4.heap.size Q oq := ⟨hod', hoq', hbw⟩
        have hpre : Pre od ds n := hdsg.out
        have hwin := ef (k := k) hou'.1 (by have := HQ'.out; omega) hou'.2.1 HN.out.1 HI.out
        have hdl := HDSL.out
        have hd1 : n - 1 < ds.length := by omega
        have hd2 : n - 2 < ds.length := by omega
        have hol := hou'.1
        have hw0 : k + n < o.length := by omega
        have hw1 : k + (n - 1) < o.length := by omega
        have hw2 : k + (n - 2) < o.length := by omega
        have c0 := hou'.cell hw0
        have c1 := hou'.cell hw1
        have c2 := hou'.cell hw2
        have k1 := hlw.dcell hpre (j := n - 1) (by omega) hd1
        have k2 := hlw.dcell hpre (j := n - 2) (by omega) hd2
        obtain ⟨un, hun⟩ : ∃ x, x = o[k + n] := ⟨_, rfl⟩
        obtain ⟨u1, hu1⟩ : ∃ x, x = o[k + (n - 1)] := ⟨_, rfl⟩
        obtain ⟨u2, hu2⟩ : ∃ x, x = o[k + (n - 2)] := ⟨_, rfl⟩
        obtain ⟨dt, hdt⟩ : ∃ x, x = ds[n - 1] := ⟨_, rfl⟩
        obtain ⟨d2, hd2'⟩ : ∃ x, x = ds[n - 2] := ⟨_, rfl⟩
        have l0 : un < 4294967296 := by rw [hun]; exact hou'.2.1 _ (List.getElem_mem hw0)
        have l1 : u1 < 4294967296 := by rw [hu1]; exact hou'.2.1 _ (List.getElem_mem hw1)
        have l2 : u2 < 4294967296 := by rw [hu2]; exact hou'.2.1 _ (List.getElem_mem hw2)
        have l3 : dt < 4294967296 := by rw [hdt]; exact hdslt.out _ (List.getElem_mem hd1)
        have l4 : d2 < 4294967296 := by rw [hd2']; exact hdslt.out _ (List.getElem_mem hd2)
        have htop := oS (by omega) HN.out.2.1 hdl hdslt.out hdsv.out
        have htop' : 2147483648 ≤ dt := by simpa [List.getD, hd1, ← hdt] using htop
        rw [← hun] at c0
        rw [← hu1] at c1
        rw [← hu2] at c2
        rw [← hdt] at k1
        rw [← hd2'] at k2
        obtain ⟨D, hD⟩ : ∃ D, D = aa ds := ⟨_, rfl⟩
        obtain ⟨U, hU⟩ : ∃ U, U = aa ((o.drop k).take (n + 1)) := ⟨_, rfl⟩
        have hUD : U < 4294967296 * D := by rw [hU, hwin.1, hD, hdsv.out]; exact hwin.2.2
        obtain ⟨G0, R0, hG0, hR0, hGR, hR0l, hG0l, hGU, hDpos, hdec, hexit⟩ := rl hy2 hdl hol hkm hdslt.out hou'.2.1 hD hU hUD hun hu1 hu2 hdt hd2' htop'
        have hend : ∀ o' : List Nat, o'.length = m1 → (∀ j, j < k ∨ k + n < j → o'.getD j 0 = o.getD j 0) → aa ((o'.drop k).take (n + 1)) = U % D →
            aa (o'.drop k) < y * 2 ^ s' ∧ x * 2 ^ s' = aa ((oq.set k (U / D)).drop k) * 4294967296 ^ k * (y * 2 ^ s') + aa o' := by
          intro o' h1 h2 h3
          have eD : D = y * 2 ^ s' := by rw [hD]; exact hdsv.out
          rw [hU]
          rw [hU] at h3
          rw [eD] at h3 ⊢
          exact km hou'.1 h1 hoq'.1 hkQ (by have := HQ'.out; omega) hou'.2.1 HN.out.1 HD0.out HI.out HX.out h2 h3
        have HEND := hid hend
        clear hend
        have o1 := dl un u1 l0 l1
        have eT : ((un * 4294967296 + u1 : Nat) : Int) = (un : Int) * 4294967296 + (u1 : Int) := by omega
        have q1 : ((un : Int) * 4294967296 + (u1 : Int)) / (dt : Int) = (G0 : Int) := by rw [← hG0, Int.natCast_ediv, eT]
        have q2 : ((un : Int) * 4294967296 + (u1 : Int)) % (dt : Int) = (R0 : Int) := by rw [← hR0, Int.natCast_emod, eT]
        clear eT hG0 hR0
        obtain ⟨p1, hp1⟩ : ∃ p, p = k + (n - 1) := ⟨_, rfl⟩
        obtain ⟨p2, hp2⟩ : ∃ p, p = k + (n - 2) := ⟨_, rfl⟩
        rw [← hp1] at c1
        rw [← hp2] at c2
        have n1 : (k : Int) + (n : Int) - 1 = (p1 : Int) := by omega
        have n2 : (k : Int) + (n : Int) - 2 = (p2 : Int) := by omega
        have n3 : (n : Int) - 2 = ((n - 2 : Nat) : Int) := by omega
        have n4 : p1 < m1 := by omega
        have n5 : p2 < m1 := by omega
        have Hu2 := hid hu2
        have Hp2 := hid hp2
        have Hdt := hid hdt
        have Hd2 := hid hd2'
        have HGR := hid hGR
        have HdecL := hid hdec
        have HexitL := hid hexit
        have HD := hid hD
        have HUU := hid hU
        have HGU := hid hGU
        have HU' := hid hUD
        have Hol := hid hol
        have HLWr := hid hlw
        have HPre := hid hpre
        clear hun hu1 hu2 hdt hd2' hGR hdec hexit hD hU hGU hUD hol hwin htop hdl hp1 hp2 hlw hpre
        have c1' := c1
        go_wp2
        go_quiet (fail)
        go_upto_block 4 with fail
        go_cut [13, 14] (fun s13 _ wx => ∃ G : Nat, s13 = .int .u64 G ∧ G ≤ 4294967296 ∧ Hid (U < (G + 1) * D) ∧ Hid (G * D ≤ U + D) ∧ OwnL wx gu m1 o ∧ LW w wx gd nn od w4.heap.size Q oq)
        case first =>
          go_wp2_with fail
          go_loopw [13, 14] (fun s7 s8 wx => ∃ G R : Nat, s7 = .int .u64 G ∧ s8 = .int .u64 R ∧ Hid (G * dt + R = un * 4294967296 + u1) ∧ R < 4294967296 ∧ G ≤ 4294967297 ∧ Hid (U < (G + 1) * D) ∧ OwnL wx gu m1 o ∧ LW w wx gd nn od w4.heap.size Q oq) (fun s7 _ _ => (intOf s7).toNat)
          case atStart => exact ⟨G0, R0, by rw [q1], by rw [q2], HGR, by omega, hG0l, HGU, hou'.drewN _, HLWr.out.drewN _⟩
          case round =>
            clear c0 c1 c1' c2 k1 k2 hou' q1 q2 o1 hod' hoq' hbw
            obtain ⟨G, R, rfl, rfl, HG, hR, hGl, HGu, hown, hlw⟩ := hrel
            have k1 := hlw.dcell HPre.out (j := n - 1) (by omega) hd1
            have k2 := hlw.dcell HPre.out (j := n - 2) (by omega) hd2
            rw [← Hdt.out] at k1
            rw [← Hd2.out] at k2
            have c2 := hown.cell hw2
            rw [← Hu2.out, ← Hp2.out] at c2
            by_cases hA : 4294967296 ≤ G
            · have dA : decide ((4294967296 : Int) ≤ (G : Int)) = true := by simp; omega
              have HG0 := hid (show 0 < G by omega)
              have HLT := hid (show U < G * D from Nat.lt_of_lt_of_le HU'.out (Nat.mul_le_mul_right _ hA))
              have e1 : IntKind.u64.wrap ((G : Int) - 1) = ((G - 1 : Nat) : Int) := by
                have : (G : Int) - 1 = ((G - 1 : Nat) : Int) := by omega
                rw [this]; exact IntWalk.u64_in _ (by omega)
              have e2 : IntKind.u64.wrap ((R : Int) + (dt : Int)) = (R : Int) + (dt : Int) := IntWalk.u64_in _ (by omega)
              have hq : Hid (U < (G - 1 + 1) * D) := by show U < (G - 1 + 1) * D; rw [show G - 1 + 1 = G by omega]; exact HLT.out
              have hgr2 : Hid ((G - 1) * dt + (R + dt) = un * 4294967296 + u1) := by
                show (G - 1) * dt + (R + dt) = un * 4294967296 + u1
                rw [← HG.out]
                have : G * dt = (G - 1) * dt + dt := by conv => lhs; rw [show G = G - 1 + 1 by omega, Nat.add_mul, Nat.one_mul]
                omega
              have hG1 : G - 1 ≤ 4294967296 := by omega
              by_cases hB : 4294967296 ≤ R + dt
              · have dB : decide ((4294967296 : Int) ≤ (R : Int) + (dt : Int)) = true := by simp; omega
                have hex : Hid ((G - 1) * D ≤ U + D) := HexitL.out (G - 1) (R + dt) hgr2.out (by
                  have h1 : (G - 1) * d2 ≤ 4294967296 * 4294967296 := Nat.mul_le_mul hG1 (by omega)
                  have h2 : 4294967296 * 4294967296 ≤ (R + dt) * 4294967296 := Nat.mul_le_mul_right _ hB
                  omega) hG1
                have HB := hid hB
                clear hA hGl hB
                go_wp2
                go_quiet (fail)
                go_upto_region 17 with fail
                go_wp2
                go_meet
                case rel => exact ⟨G - 1, rfl, hG1, hq, hex, hown.drewN _, hlw.drewN _⟩
              have dB : decide ((4294967296 : Int) ≤ (R : Int) + (dt : Int)) = false := by simp; omega
              have HB := hid hB
              have hRd : R + dt < 4294967296 := by omega
              have HRd := hid hRd
              clear hA hGl hB hRd
              go_wp2
              go_quiet (fail)
              go_upto_region 17 with fail
              go_wp2
              go_roundw
              case rel => exact ⟨G - 1, R + dt, rfl, by go_num, hgr2, HRd.out, by have := hG1; omega, hq, hown.drewN _, hlw.drewN _⟩
              case measure => have := HG0.out; simp [intOf]; omega
            have dA : decide ((4294967296 : Int) ≤ (G : Int)) = false := by simp; omega
            have hGl' : G < 4294967296 := by omega
            have hmb := nC hGl' l4
            have e3 : IntKind.u64.wrap ((G : Int) * (d2 : Int)) = (G : Int) * (d2 : Int) := IntWalk.u64_in _ (by rw [← Int.natCast_mul]; omega)
            have o2 := dl R u2 hR l2
            by_cases hC : R * 4294967296 + u2 < G * d2
            · have dC : decide ((R : Int) * 4294967296 + (u2 : Int) < (G : Int) * (d2 : Int)) = true := by rw [← Int.natCast_mul]; simp; omega
              have HG0 := hid (show 0 < G by rcases Nat.eq_zero_or_pos G with h | h; · subst h; omega
                                             exact h)
              have HLT := hid (HdecL.out G R HG.out hC)
              have HG00 := HG0.out
              have e1 : IntKind.u64.wrap ((G : Int) - 1) = ((G - 1 : Nat) : Int) := by
                have : (G : Int) - 1 = ((G - 1 : Nat) : Int) := by omega
                rw [this]; exact IntWalk.u64_in _ (by omega)
              have e2 : IntKind.u64.wrap ((R : Int) + (dt : Int)) = (R : Int) + (dt : Int) := IntWalk.u64_in _ (by omega)
              have hq : Hid (U < (G - 1 + 1) * D) := by show U < (G - 1 + 1) * D; rw [show G - 1 + 1 = G by omega]; exact HLT.out
              have hgr2 : Hid ((G - 1) * dt + (R + dt) = un * 4294967296 + u1) := by
                show (G - 1) * dt + (R + dt) = un * 4294967296 + u1
                rw [← HG.out]
                have : G * dt = (G - 1) * dt + dt := by conv => lhs; rw [show G = G - 1 + 1 by omega, Nat.add_mul, Nat.one_mul]
                omega
              have hG1 : G - 1 ≤ 4294967296 := by omega
              by_cases hB : 4294967296 ≤ R + dt
              · have dB : decide ((4294967296 : Int) ≤ (R : Int) + (dt : Int)) = true := by simp; omega
                have hex : Hid ((G - 1) * D ≤ U + D) := HexitL.out (G - 1) (R + dt) hgr2.out (by
                  have h1 : (G - 1) * d2 ≤ 4294967296 * 4294967296 := Nat.mul_le_mul hG1 (by omega)
                  have h2 : 4294967296 * 4294967296 ≤ (R + dt) * 4294967296 := Nat.mul_le_mul_right _ hB
                  omega) hG1
                have HB := hid hB
                clear hA hGl hB hmb hC hGl'
                go_wp2
                go_quiet (fail)
                go_upto_region 17 with fail
                go_wp2
                go_meet
                case rel => exact ⟨G - 1, rfl, hG1, hq, hex, hown.drewN _, hlw.drewN _⟩
              have dB : decide ((4294967296 : Int) ≤ (R : Int) + (dt : Int)) = false := by simp; omega
              have HB := hid hB
              have hRd : R + dt < 4294967296 := by omega
              have HRd := hid hRd
              clear hA hGl hB hRd hmb hC hGl'
              go_wp2
              go_quiet (fail)
              go_upto_region 17 with fail
              go_wp2
              go_roundw
              case rel => exact ⟨G - 1, R + dt, rfl, by go_num, hgr2, HRd.out, by have := hG1; omega, hq, hown.drewN _, hlw.drewN _⟩
              case measure => have := HG0.out; simp [intOf]; omega
            have dC : decide ((R : Int) * 4294967296 + (u2 : Int) < (G : Int) * (d2 : Int)) = false := by rw [← Int.natCast_mul]; simp; omega
            have hex : Hid (G * D ≤ U + D) := HexitL.out G R HG.out (by omega) (by omega)
            have hG1 : G ≤ 4294967296 := by omega
            have HG1 := hid hG1
            clear hA hGl hC hmb hGl' hG1
            go_wp2
            go_quiet (fail)
            go_wp2
            go_meet
            case rel => exact ⟨G, rfl, HG1.out, HGu, hex, hown.drewN _, hlw.drewN _⟩
        case rest =>
          obtain ⟨G, rfl, hG, HGu, HGe, hownc, hlwc⟩ := hcut
          clear c0 c1 c1' c2 k1 k2 q1 q2 o1 n1 n2 n4 n5 hod' hou' hoq' hbw
          have H2 := hid (kj hDpos HGu.out HGe.out)
          go_wp2
          go_loopw [15, 16, 17, 18, 19] (fun c b i _ _ wx => ∃ (z c' b' : Nat) (o' : List Nat), z ≤ n ∧ i = .int .i64 z ∧ c = .int .u64 c' ∧ c' < 4294967296 ∧ b = .int .u64 b' ∧ b' ≤ 1 ∧ OwnL wx gu m1 o' ∧ LW w wx gd nn od w4.heap.size Q oq ∧ Hid (∀ j, (j < k ∨ k + z ≤ j) → o'.getD j 0 = o.getD j 0) ∧
            Hid (aa ((o'.drop k).take z) + G * aa (ds.take z) = aa ((o.drop k).take z) + 4294967296 ^ z * (b' + c'))) (fun _ _ i _ _ _ => n - (intOf i).toNat)
          case atStart => exact ⟨0, 0, 0, o, by omega, rfl, rfl, by omega, rfl, by omega, hownc, hlwc, fun j _ => rfl, by simp [Hid, aa]⟩
          case round =>
            obtain ⟨z, c', b', o', hz, rfl, rfl, hc', rfl, hb', hown', hlw', HO, HE⟩ := hrel
            have hol' := hown'.1
            by_cases hlt : z < n
            · have hlt' : z < ds.length := by have := HDSL.out; omega
              have f0 := hlw'.dcell HPre.out (j := z) hlt hlt'
              have f1 := hdslt.out _ (List.getElem_mem hlt')
              have HT := hid (aK ds z hlt')
              obtain ⟨v, hv⟩ : ∃ v, v = ds[z] := ⟨_, rfl⟩
              rw [← hv] at f0 f1 HT
              clear hv
              have hko : k + z < o'.length := by omega
              have c1 := hown'.cell hko
              have c2 := hown'.frozen (k + z)
              obtain ⟨u, hu⟩ : ∃ u, u = o'[k + z] := ⟨_, rfl⟩
              have hu' : u < 4294967296 := by rw [hu]; exact hown'.2.1 _ (List.getElem_mem hko)
              have HUo := hid (show o.getD (k + z) 0 = u by rw [← HO.out (k + z) (.inr (by omega)), hu]; simp [List.getD, hko])
              rw [← hu] at c1
              clear hu
              have HTk := hid (fun d => bl (o := o') (off := k) (k := z) (d := d) hko)
              obtain ⟨lo, hlo⟩ : ∃ t : Nat, t = (c' + G * v) % 4294967296 := ⟨_, rfl⟩
              obtain ⟨hi, hhi⟩ : ∃ t : Nat, t = (c' + G * v) / 4294967296 := ⟨_, rfl⟩
              have hmb : G * v ≤ 4294967296 * 4294967295 := Nat.mul_le_mul hG (by omega)
              have hlh : lo + 4294967296 * hi = c' + G * v := by omega
              have hlo' : lo < 4294967296 := by omega
              have hhi' : hi < 4294967296 := by omega
              have e1 : IntKind.u64.wrap ((G : Int) * (v : Int)) = (G : Int) * (v : Int) := IntWalk.u64_in _ (by rw [← Int.natCast_mul]; omega)
              have e2 : IntKind.u64.wrap ((c' : Int) + (G : Int) * (v : Int)) = (c' : Int) + (G : Int) * (v : Int) := IntWalk.u64_in _ (by rw [← Int.natCast_mul]; omega)
              have elo : ((c' : Int) + (G : Int) * (v : Int)) % 4294967296 = (lo : Int) := by rw [← Int.natCast_mul]; omega
              have ehi : ((c' : Int) + (G : Int) * (v : Int)) / 4294967296 = (hi : Int) := by rw [← Int.natCast_mul]; omega
              have ea : bits .and .u64 ((c' : Int) + (G : Int) * (v : Int)) 4294967295 = (lo : Int) := by
                have h1 := yd (c' + G * v) (by omega)
                rw [← hlo] at h1
                rw [← Int.natCast_mul, ← Int.natCast_add]
                exact h1
              have HLH := hid hlh
              have hfin : ∀ d e, d + lo + b' = u + 4294967296 * e → aa (((o'.set (k + z) d).drop k).take (z + 1)) + G * aa (ds.take (z + 1)) = aa ((o.drop k).take (z + 1)) + 4294967296 ^ (z + 1) * (e + hi) := by
                intro d e hde
                have h1 := HE.out
                rw [HTk.out, ap, aQ (by omega), HT.out, bm (by have := Hol.out; omega), ap, aQ (by have := Hol.out; omega), HUo.out, Nat.mul_add, Nat.pow_succ, Nat.mul_assoc, Nat.mul_left_comm G]
                have h2 : 4294967296 ^ z * d + 4294967296 ^ z * (G * v) + 4294967296 ^ z * (b' + c') = 4294967296 ^ z * u + 4294967296 ^ z * (4294967296 * (e + hi)) := by
                  rw [← Nat.mul_add, ← Nat.mul_add, ← Nat.mul_add]
                  congr 1
                  omega
                omega
              have HF := hid hfin
              clear hlh hmb hlo hhi hfin
              by_cases hb : u < lo + b'
              · obtain ⟨d, hd⟩ : ∃ d, d = u + 4294967296 - (lo + b') := ⟨_, rfl⟩
                have hdl : d < 4294967296 := by omega
                have ed : IntKind.u64.wrap ((u : Int) + 4294967296 - ((lo : Int) + (b' : Int))) = (d : Int) := by
                  have : (u : Int) + 4294967296 - ((lo : Int) + (b' : Int)) = (d : Int) := by omega
                  rw [this]; exact IntWalk.u64_in _ (by omega)
                have HR := hid (HF.out d 1 (by omega))
                clear hd HF
                go_wp2
                go_roundw
                case rel =>
                  refine ⟨z + 1, hi, 1, o'.set (k + z) d, by omega, by go_num, rfl, hhi', rfl, by omega, hown'.set hko hdl, hlw'.set hgud hqu.symm hwu _ _, fun j hj => ?_, HR.out⟩
                  rw [← HO.out j (by omega)]
                  simp [List.getD, show ¬ k + z = j by omega]
                case measure => simp [intOf]; omega
              obtain ⟨d, hd⟩ : ∃ d, d = u - (lo + b') := ⟨_, rfl⟩
              have hdl : d < 4294967296 := by omega
              have ed : IntKind.u64.wrap ((u : Int) - ((lo : Int) + (b' : Int))) = (d : Int) := by
                have : (u : Int) - ((lo : Int) + (b' : Int)) = (d : Int) := by omega
                rw [this]; exact IntWalk.u64_in _ (by omega)
              have HR := hid (HF.out d 0 (by omega))
              clear hd HF
              go_wp2
              go_roundw
              case rel =>
                refine ⟨z + 1, hi, 0, o'.set (k + z) d, by omega, by go_num, rfl, hhi', rfl, by omega, hown'.set hko hdl, hlw'.set hgud hqu.symm hwu _ _, fun j hj => ?_, HR.out⟩
                rw [← HO.out j (by omega)]
                simp [List.getD, show ¬ k + z = j by omega]
              case measure => simp [intOf]; omega
            obtain rfl : n = z := by omega
            have hko : k + n < o'.length := by omega
            have c1 := hown'.cell hko
            have c2 := hown'.frozen (k + n)
            have hkq : k < oq.length := by rw [hlw'.2.1.1]; exact hkQ
            have c3 := hlw'.2.1.cell hkq
            have c4 := hlw'.2.1.frozen k
            obtain ⟨u, hu⟩ : ∃ u, u = o'[k + n] := ⟨_, rfl⟩
            have hu' : u < 4294967296 := by rw [hu]; exact hown'.2.1 _ (List.getElem_mem hko)
            have huo : o.getD (k + n) 0 = u := by rw [← HO.out (k + n) (.inr (by omega)), hu]; simp [List.getD, hko]
            rw [← hu] at c1
            clear hu
            have hds : ds.take n = ds := List.take_of_length_le (by have := HDSL.out; omega)
            have hfin : ∀ d e, d + (c' + b') = u + 4294967296 * e → aa (((o'.set (k + n) d).drop k).take (n + 1)) + G * D = U + 4294967296 ^ (n + 1) * e := by
              intro d e hde
              have h1 := HE.out
              rw [hds, ← HD.out] at h1
              rw [bl hko, ap, aQ (by omega), HUU.out, bm (by have := Hol.out; omega), ap, aQ (by have := Hol.out; omega), huo, Nat.pow_succ, Nat.mul_assoc]
              have h2 : 4294967296 ^ n * d + 4294967296 ^ n * (b' + c') = 4294967296 ^ n * u + 4294967296 ^ n * (4294967296 * e) := by
                rw [← Nat.mul_add, ← Nat.mul_add]
                congr 1
                omega
              omega
            have hout : ∀ d j, j < k ∨ k + n < j → (o'.set (k + n) d).getD j 0 = o.getD j 0 := fun d j hj => by
              rw [← HO.out j (by omega)]
              simp [List.getD, show ¬ k + n = j by omega]
            have hPlt : ∀ d, d < 4294967296 → aa (((o'.set (k + n) d).drop k).take (n + 1)) < 4294967296 ^ (n + 1) := fun d hd => by
              have hlen : (((o'.set (k + n) d).drop k).take (n + 1)).length = n + 1 := aQ (by simp; omega)
              have := ax (xs := ((o'.set (k + n) d).drop k).take (n + 1)) (fun x hx => (hown'.set hko hd).2.1 x (List.mem_of_mem_drop (List.mem_of_mem_take hx)))
              rwa [hlen] at this
            have HF := hid hfin
            have HOut := hid hout
            have HP := hid hPlt
            have hq32 : U / D < 4294967296 := Nat.div_lt_of_lt_mul (by rw [Nat.mul_comm]; exact HU'.out)
            have HQ32 := hid hq32
            clear hfin hout hPlt huo hds hq32
            by_cases hb : u < c' + b'
            · obtain ⟨d, hd⟩ : ∃ d, d = u + 4294967296 - (c' + b') := ⟨_, rfl⟩
              have hdl : d < 4294967296 := by omega
              have ed : IntKind.u64.wrap ((u : Int) - ((c' : Int) + (b' : Int))) % 4294967296 = (d : Int) := by rw [IntKind.wrap_u64]; omega
              have h0 := HF.out d 1 (by omega)
              rw [Nat.mul_one] at h0
              have HQe := hid (jw hDpos H2.out (HP.out d hdl) h0)
              have hG1 : 1 ≤ G := by rw [HQe.out.1]; exact Nat.le_add_left 1 _
              have eg : IntKind.u64.wrap ((G : Int) - 1) = ((G - 1 : Nat) : Int) := by
                have : (G : Int) - 1 = ((G - 1 : Nat) : Int) := by omega
                rw [this]; exact IntWalk.u64_in _ (by omega)
              have HGe := hid (show G - 1 = U / D by rw [HQe.out.1]; rfl)
              have HGl := hid (show G - 1 < 4294967296 by rw [HGe.out]; exact HQ32.out)
              have hown2 := hown'.set hko hdl
              have hlw2 := hlw'.set hgud hqu.symm hwu (k + n) (.int .u32 (d : Nat))
              obtain ⟨o2, ho2⟩ : ∃ o2, o2 = o'.set (k + n) d := ⟨_, rfl⟩
              have HOut2 := hid (HOut.out d)
              have HL2 := hid (show o2.length = m1 by rw [ho2]; simp [hol'])
              have HQ2 := hid HQe.out.2
              rw [← ho2] at hown2 HOut2 HQ2
              clear hd HF h0 HP HOut ho2 HE HO
              go_wp2
              clear c1 c2 c3 c4 hlw' hown'
              go_loopw [15, 23] (fun c i wx => ∃ (z c' : Nat) (o3 : List Nat), z ≤ n ∧ i = .int .i64 z ∧ c = .int .u64 c' ∧ c' ≤ 1 ∧ OwnL wx gu m1 o3 ∧ LW w wx gd nn od w4.heap.size Q oq ∧ Hid (∀ j, (j < k ∨ k + z ≤ j) → o3.getD j 0 = o2.getD j 0) ∧
                Hid (aa ((o3.drop k).take z) + 4294967296 ^ z * c' = aa ((o2.drop k).take z) + aa (ds.take z))) (fun _ i _ => n - (intOf i).toNat)
              case atStart => exact ⟨0, 0, o2, by omega, rfl, rfl, by omega, hown2, hlw2, fun j _ => rfl, by simp [Hid, aa]⟩
              case round =>
                clear hown2 hlw2 ed hb hb' hc' hu'
                obtain ⟨z, c', o3, hz, rfl, rfl, hc', hown3, hlw3, HO3, HE3⟩ := hrel
                have hol3 := hown3.1
                have hl2 : o2.length = o3.length := HL2.out.trans hol3.symm
                have HL23 := hid hl2
                clear hl2
                by_cases hlt : z < n
                · have hlt' : z < ds.length := by have := HDSL.out; omega
                  have f0 := hlw3.dcell HPre.out (j := z) hlt hlt'
                  have f1 := hdslt.out _ (List.getElem_mem hlt')
                  have HT := hid (aK ds z hlt')
                  obtain ⟨v, hv⟩ : ∃ v, v = ds[z] := ⟨_, rfl⟩
                  rw [← hv] at f0 f1 HT
                  clear hv
                  have hko : k + z < o3.length := by omega
                  have c1 := hown3.cell hko
                  have c2 := hown3.frozen (k + z)
                  obtain ⟨u, hu⟩ : ∃ u, u = o3[k + z] := ⟨_, rfl⟩
                  have hu' : u < 4294967296 := by rw [hu]; exact hown3.2.1 _ (List.getElem_mem hko)
                  have HXo := hid (show o2.getD (k + z) 0 = u by rw [← HO3.out (k + z) (.inr (by omega)), hu]; simp [List.getD, hko])
                  rw [← hu] at c1
                  clear hu
                  have HTk := hid (fun d => bl (o := o3) (off := k) (k := z) (d := d) hko)
                  obtain ⟨lo, hlo⟩ : ∃ t : Nat, t = (c' + u + v) % 4294967296 := ⟨_, rfl⟩
                  obtain ⟨hi, hhi⟩ : ∃ t : Nat, t = (c' + u + v) / 4294967296 := ⟨_, rfl⟩
                  have hlh : lo + 4294967296 * hi = c' + u + v := by omega
                  have hlo' : lo < 4294967296 := by omega
                  have hhi' : hi ≤ 1 := by omega
                  have e1 : IntKind.u64.wrap ((c' : Int) + (u : Int)) = (c' : Int) + (u : Int) := IntWalk.u64_in _ (by omega)
                  have e2 : IntKind.u64.wrap ((c' : Int) + (u : Int) + (v : Int)) = (c' : Int) + (u : Int) + (v : Int) := IntWalk.u64_in _ (by omega)
                  have elo : ((c' : Int) + (u : Int) + (v : Int)) % 4294967296 = (lo : Int) := by omega
                  have ehi : ((c' : Int) + (u : Int) + (v : Int)) / 4294967296 = (hi : Int) := by omega
                  have hfin : aa (((o3.set (k + z) lo).drop k).take (z + 1)) + 4294967296 ^ (z + 1) * hi = aa ((o2.drop k).take (z + 1)) + aa (ds.take (z + 1)) := by
                    have h1 := HE3.out
                    rw [HTk.out, ap, aQ (by omega), HT.out, bm (by have := HL2.out; omega), ap, aQ (by have := HL2.out; omega), HXo.out, Nat.pow_succ, Nat.mul_assoc]
                    have h2 : 4294967296 ^ z * lo + 4294967296 ^ z * (4294967296 * hi) = 4294967296 ^ z * c' + 4294967296 ^ z * u + 4294967296 ^ z * v := by
                      rw [← Nat.mul_add, hlh, Nat.mul_add, Nat.mul_add]
                    omega
                  have HR := hid hfin
                  clear hlh hlo hhi hfin
                  go_wp2
                  go_quiet (fail)
                  go_wp2
                  go_roundw
                  case rel =>
                    refine ⟨z + 1, hi, o3.set (k + z) lo, by omega, by go_num, rfl, hhi', (hown3.drewN _).set hko hlo', (hlw3.drewN _).set hgud hqu.symm hwu _ _, fun j hj => ?_, HR.out⟩
                    rw [← HO3.out j (by omega)]
                    simp [List.getD, show ¬ k + z = j by omega]
                  case measure => simp [intOf]; omega
                obtain rfl : n = z := by omega
                have hko : k + n < o3.length := by omega
                have c1 := hown3.cell hko
                have c2 := hown3.frozen (k + n)
                have hkq : k < oq.length := by rw [hlw3.2.1.1]; exact hkQ
                have c3 := hlw3.2.1.cell hkq
                have c4 := hlw3.2.1.frozen k
                obtain ⟨u, hu⟩ : ∃ u, u = o3[k + n] := ⟨_, rfl⟩
                have hu' : u < 4294967296 := by rw [hu]; exact hown3.2.1 _ (List.getElem_mem hko)
                have hxo : o2.getD (k + n) 0 = u := by rw [← HO3.out (k + n) (.inr (by omega)), hu]; simp [List.getD, hko]
                rw [← hu] at c1
                clear hu
                obtain ⟨d3, hd3⟩ : ∃ d : Nat, d = (u + c') % 4294967296 := ⟨_, rfl⟩
                obtain ⟨e, he⟩ : ∃ e : Nat, e = (u + c') / 4294967296 := ⟨_, rfl⟩
                have hde : d3 + 4294967296 * e = u + c' := by omega
                have hd1' : d3 < 4294967296 := by omega
                have hdi : ((u : Int) + (c' : Int)) % 4294967296 = (d3 : Int) := by omega
                have hds : ds.take n = ds := List.take_of_length_le (by have := HDSL.out; omega)
                have hDlt : D < 4294967296 ^ n := by
                  have := ax hdslt.out
                  rw [← HD.out, HDSL.out] at this
                  exact this
                have hfin : aa (((o3.set (k + n) d3).drop k).take (n + 1)) = U % D := by
                  have h1 := HE3.out
                  rw [hds, ← HD.out] at h1
                  have h3 := HQ2.out
                  rw [bm (by have := HL2.out; omega), ap, aQ (by have := HL2.out; omega), hxo] at h3
                  have hlt3 : aa (((o3.set (k + n) d3).drop k).take (n + 1)) < 4294967296 ^ (n + 1) := by
                    have hlen : (((o3.set (k + n) d3).drop k).take (n + 1)).length = n + 1 := aQ (by simp; omega)
                    have := ax (xs := ((o3.set (k + n) d3).drop k).take (n + 1)) (fun y hy => (hown3.set hko hd1').2.1 y (List.mem_of_mem_drop (List.mem_of_mem_take hy)))
                    rwa [hlen] at this
                  rw [bl hko, ap, aQ (by omega)] at hlt3 ⊢
                  have h2 : 4294967296 ^ n * d3 + 4294967296 ^ n * (4294967296 * e) = 4294967296 ^ n * u + 4294967296 ^ n * c' := by
                    rw [← Nat.mul_add, hde, Nat.mul_add]
                  have h4 : U % D < 4294967296 ^ n := Nat.lt_trans (Nat.mod_lt _ hDpos) hDlt
                  have h5 : 4294967296 ^ (n + 1) = 4294967296 ^ n * 4294967296 := by rw [Nat.pow_succ]
                  have h6 : 4294967296 ^ n * (4294967296 * e) = 4294967296 ^ (n + 1) * e := by rw [h5, Nat.mul_assoc]
                  have he01 : e = 0 ∨ e = 1 := by omega
                  rcases he01 with h | h
                  · subst h; omega
                  subst h; omega
                have hout : ∀ j, j < k ∨ k + n < j → (o3.set (k + n) d3).getD j 0 = o.getD j 0 := fun j hj => by
                  rw [← HOut2.out j hj, ← HO3.out j (by omega)]
                  simp [List.getD, show ¬ k + n = j by omega]
                have HR := hid (HEND.out _ (by rw [List.length_set]; exact hol3) hout hfin)
                have hg1 : G - 1 < 4294967296 := HGl.out
                clear he hde hfin hout hds hxo hDlt hd3
                go_wp2
                go_roundw
                case rel =>
                  have h1 := HR.out
                  rw [← HGe.out] at h1
                  exact ⟨k, o3.set (k + n) d3, oq.set k (G - 1), by omega, rfl, (hlw3.2.2.setCell hwu _).setCell hwq _, (hlw3.1.other hgud _ _).other hqd _ _, (hown3.set hko hd1').other hqu _ _, (hlw3.2.1.other hqu.symm _ _).set hkq HGl.out, h1.1, h1.2⟩
                case measure => simp [intOf]
            obtain ⟨d, hd⟩ : ∃ d, d = u - (c' + b') := ⟨_, rfl⟩
            have hdl : d < 4294967296 := by omega
            have ed : IntKind.u64.wrap ((u : Int) - ((c' : Int) + (b' : Int))) = (d : Int) := by
              have : (u : Int) - ((c' : Int) + (b' : Int)) = (d : Int) := by omega
              rw [this]; exact IntWalk.u64_in _ (by omega)
            have h0 := HF.out d 0 (by omega)
            rw [Nat.mul_zero, Nat.add_zero] at h0
            have HQe := hid (jv hDpos H2.out h0)
            have hGl : G < 4294967296 := by rw [HQe.out.1]; exact HQ32.out
            have HR := hid (HEND.out _ (by rw [List.length_set]; exact hol') (HOut.out d) HQe.out.2)
            clear hd HF h0
            go_wp2
            go_roundw
            case rel =>
              have h1 := HR.out
              rw [← HQe.out.1] at h1
              exact ⟨k, o'.set (k + n) d, oq.set k G, by omega, rfl, (hlw'.2.2.setCell hwu _).setCell hwq _, (hlw'.1.other hgud _ _).other hqd _ _, (hown'.set hko hdl).other hqu _ _, (hlw'.2.1.other hqu.symm _ _).set hkq hGl, h1.1, h1.2⟩
            case measure => simp [intOf]
def az (r:GRat):Value:= .agg #[.bool r.neg,.string r.num,.string r.den]
def mO (r:GRat):Int:=if r.num.size=0 then 0 else if r.neg=true then -1 else 1
theorem fV {s:ByteArray} (h:¬s.size=0):s.toList.isEmpty=false:=by
 rw [ByteArray.toList_eq];cases hl:s.data.toList with
 |nil=>exact absurd (by rw [←ByteArray.size_data,←Array.length_toList,hl];rfl) h
 |cons=>rfl
theorem jC (n:Int) (w:World) (h0: -9223372036854775808<=n) (h1:n<=9223372036854775807):Calls prog 117 #[.int .i64 n] w fun e w'=>e= .returned (.int .u64 (n.natAbs:Int))/\w=w':=by
 by_cases h:n<0
 ·have e:Hid ((-(n+1))+1=(n.natAbs:Int)):=by show (-(n+1))+1=(n.natAbs:Int);omega
  go_enter func117,ntmps117
  go_wp2
  go_ret
  exact ⟨aS e.out,rfl⟩
 have e:Hid (n=(n.natAbs:Int)):=by show n=(n.natAbs:Int);omega
 go_enter func117,ntmps117
 go_wp2
 go_ret
 exact ⟨aS e.out,rfl⟩
def pW (r:GRat):GRat:=if r.num.size=0 then r else ⟨!r.neg,r.num,r.den⟩

end Go.Proofs.YtclkgcigacbmiaaGreatDoor
section
/- Rational numbers Cf the program dE them: plain. -/
namespace Go.Proofs.YtclkgcigacbmiaaGreatDoor
def sg (b:Bool) (n:Nat):Int:=if b=true then -(n:Int) else (n:Int)
theorem cw (b:Bool) (n:Nat):(sg b n).natAbs=n:=by unfold sg;split<;>simp
theorem oV (b:Bool):sg b 0=0:=by unfold sg;split<;>rfl
theorem nH {b:Bool} {n:Nat} (h:n≠0):(sg b n<0)=(b=true):=by
 unfold sg;cases b<;>simp<;>omega
theorem vD (z:Int):sg (decide (z<0)) z.natAbs=z:=by unfold sg;split<;>simp_all<;>omega
def aD:ByteArray:={data:= #[]}
theorem dn:ae 0=aD:=by unfold ae aD;rw [aU]
theorem eV:aD.size=0:=rfl
theorem g8 {s:ByteArray} (h:s.size=0):s=aD:=ByteArray.ext (Array.eq_empty_of_size_eq_zero h)
theorem dd {n:Nat} (h:n≠0):(ae n).size≠0:=by
 rw [aL,bU h];simp
theorem gw {n:Nat}:(ae n).size=0↔n=0:=⟨fun h=>by rcases Nat.eq_zero_or_pos n with h0|h0;exact h0;exact absurd h (dd (by omega)),fun h=>by subst h;rw [dn];rfl⟩
def enc (q:Rat):GRat:=⟨decide (q.num<0),ae q.num.natAbs,if q.den=1 then aD else ae q.den⟩
theorem gx:enc 0=⟨false,aD,aD⟩:=by
 unfold enc;simp [dn]
theorem tB {p q:Rat} (h:enc p=enc q):p=q:=by
 unfold enc at h;injection h with h1 h2 h3
 have e2:=fT h2;have e1:p.num=q.num:=by
  have:=decide_eq_decide.1 h1;omega
 have e3:p.den=q.den:=by
  split at h3<;>split at h3
  ·omega
  ·have h4:=congrArg ByteArray.size h3;exact absurd h4.symm (dd q.den_nz)
  ·have h4:=congrArg ByteArray.size h3;exact absurd h4 (dd p.den_nz)
  exact fT h3
 exact Rat.ext e1 e3
open Classical in
noncomputable def qOf (r:GRat):Rat:=if h:∃q,enc q=r then h.choose else 0
theorem iL (q:Rat):qOf (enc q)=q:=by
 unfold qOf;have h:∃p,enc p=enc q:=⟨q,rfl⟩;rw [dif_pos h];exact tB h.choose_spec
def tC (r:GRat):Nat:=if r.den.size=0 then 1 else ac r.den
theorem lu (q:Rat):tC (enc q)=q.den:=by
 unfold tC enc;by_cases h:q.den=1
 ·simp [h,eV]
 simp only [h,if_false];rw [if_neg (dd q.den_nz),ai]
theorem lv (q:Rat):ac (enc q).num=q.num.natAbs:=by unfold enc;exact ai _
theorem dS (q:Rat):(enc q).num.size=0↔q=0:=by
 unfold enc;show (ae _).size=0↔_;rw [gw];constructor
 ·intro h;exact Rat.num_eq_zero.1 (by omega)
 intro h;rw [h];rfl
def bL (r:GRat):Bool:=
 decide (ae (ac r.num)=r.num)&&decide (ae (ac r.den)=r.den)&&
  (if r.num.size=0 then !r.neg&&decide (r.den.size=0) else decide (r.den.size=0)||(decide (ac r.den≠1)&&decide (Nat.gcd (ac r.num) (ac r.den)=1)))
theorem nI (q:Rat):bL (enc q)=true:=by
 have h1:ae (ac (enc q).num)=(enc q).num:=by rw [lv];rfl
 have h2:ae (ac (enc q).den)=(enc q).den:=by
  unfold enc;by_cases h:q.den=1
  ·simp only [h,if_true];rw [←dn,ai]
  simp only [h,if_false];rw [ai]
 unfold bL;simp only [h1,h2,decide_true,Bool.true_and];by_cases h0:q=0
 ·subst h0;rw [gx];simp [eV]
 rw [if_neg (fun h=>h0 ((dS q).1 h))];by_cases hd:q.den=1
 ·simp [enc,hd,eV]
 have e:(enc q).den=ae q.den:=by simp [enc,hd]
 rw [e,ai,lv];simp [hd];right;exact q.reduced
theorem pX {r:GRat} (h:bL r=true):∃q,enc q=r:=by
 unfold bL at h;simp only [Bool.and_eq_true,decide_eq_true_eq] at h;obtain ⟨⟨h1,h2⟩,h3⟩:=h;by_cases h0:r.num.size=0
 ·rw [if_pos h0] at h3;simp only [Bool.and_eq_true,Bool.not_eq_true',decide_eq_true_eq] at h3;refine ⟨0,?_⟩;rw [gx];obtain ⟨n,a,b⟩:=r;simp only at h0 h3 ⊢;rw [h3.1,g8 h0,g8 h3.2]
 rw [if_neg h0] at h3;have hn:ac r.num≠0:=by
  intro h;rw [h,dn] at h1;rw [←h1] at h0;exact h0 rfl
 simp only [Bool.or_eq_true,Bool.and_eq_true,decide_eq_true_eq] at h3;by_cases hd:r.den.size=0
 ·refine ⟨⟨sg r.neg (ac r.num),1,by decide,by simp [Nat.Coprime]⟩,?_⟩;unfold enc;simp only [cw,nH hn,if_true,h1];obtain ⟨n,a,b⟩:=r;simp only at hd ⊢;rw [g8 hd];simp
 have h4:=h3.resolve_left hd;have hd0:ac r.den≠0:=by
  intro h;rw [h,dn] at h2;rw [←h2] at hd;exact hd rfl
 refine ⟨⟨sg r.neg (ac r.num),ac r.den,hd0,by rw [cw];exact h4.2⟩,?_⟩;unfold enc;simp only [cw,nH hn,if_neg h4.1,h1,h2];obtain ⟨n,a,b⟩:=r;simp
theorem oW {r:GRat} (h:bL r=false):qOf r=0:=by
 unfold qOf;rw [dif_neg];rintro ⟨q,rfl⟩;rw [nI] at h;cases h
theorem rn {r:GRat} (h:bL r=true):enc (qOf r)=r:=by
 obtain ⟨q,rfl⟩:=pX h;rw [iL]
theorem kp {neg:Bool} {n d:Nat} (hn:n≠0) (hd:d≠0):enc (mkRat (sg neg n) d)=⟨neg,ae (n/Nat.gcd n d),if d/Nat.gcd n d=1 then aD else ae (d/Nat.gcd n d)⟩:=by
 have hg:0<Nat.gcd n d:=Nat.gcd_pos_of_pos_left _ (by omega);have hq:n/Nat.gcd n d≠0:=by
  have:=Nat.div_pos (Nat.gcd_le_left d (by omega:0<n)) hg;omega
 have e1:(mkRat (sg neg n) d).num=sg neg (n/Nat.gcd n d):=by
  rw [Rat.num_mkRat,if_neg hd,cw,Nat.gcd_comm];unfold sg;split
  ·rw [Int.neg_ediv_of_dvd (Int.natCast_dvd_natCast.2 (Nat.gcd_dvd_left n d))];rfl
  rfl
 have e2:(mkRat (sg neg n) d).den=d/Nat.gcd n d:=by
  rw [Rat.den_mkRat,if_neg hd,cw,Nat.gcd_comm]
 unfold enc;rw [e1,e2,cw];simp only [nH hq];simp
def qB (n:Nat) (q:Rat):Prop:=q.num.natAbs<256^n/\q.den<256^n
theorem qB.mono {m n:Nat} {q:Rat} (h:qB m q) (hm:m<=n):qB n q:=
 have:=Nat.pow_le_pow_right (show 0<256 by decide) hm;⟨Nat.lt_of_lt_of_le h.1 this,Nat.lt_of_lt_of_le h.2 this⟩
theorem oX:qB 1 0:=by unfold qB;simp
theorem jD {n:Nat} {z:Int} {d:Nat} (hz:z.natAbs<256^n) (hd:d<256^n) (hn:0<n):qB n (mkRat z d):=by
 have h1:1<256^n:=Nat.one_lt_pow (by omega) (by decide);by_cases h:d=0
 ·subst h;rw [Rat.mkRat_zero];exact oX.mono hn
 constructor
 ·rw [Rat.num_mkRat,if_neg h];refine Nat.lt_of_le_of_lt ?_ hz;have hdv:((d.gcd z.natAbs:Nat):Int)∣z:=Int.ofNat_dvd_left.2 (Nat.gcd_dvd_right _ _);rw [Int.natAbs_ediv_of_dvd hdv];exact Nat.div_le_self _ _
 rw [Rat.den_mkRat,if_neg h];exact Nat.lt_of_le_of_lt (Nat.div_le_self _ _) hd
theorem cx {a b m n:Nat} (ha:a<256^m) (hb:b<256^n):a*b<256^(m+n):=by
 rw [Nat.pow_add];exact Nat.mul_lt_mul'' ha hb
theorem qB.pos {n:Nat} {q:Rat} (h:qB n q):0<n:=by
 rcases Nat.eq_zero_or_pos n with h0|h0
 ·subst h0;have:=h.2;have:=q.den_nz;omega
 exact h0
theorem qB.add {m n:Nat} {p q:Rat} (hp:qB m p) (hq:qB n q):qB (m+n+1) (p+q):=by
 rw [Rat.add_def'];have h1:=cx hp.1 hq.2;have h2:=cx hq.1 hp.2;have h3:=cx hp.2 hq.2;have e:256^(m+n+1)=256^(m+n)*256:=Nat.pow_succ ..;rw [Nat.add_comm n m] at h2;refine jD ?_ (by rw [e];omega) (by omega);refine Nat.lt_of_le_of_lt (Int.natAbs_add_le _ _) ?_;rw [Int.natAbs_mul,Int.natAbs_mul,Int.natAbs_natCast,Int.natAbs_natCast,e];omega
theorem qB.mul {m n:Nat} {p q:Rat} (hp:qB m p) (hq:qB n q):qB (m+n) (p*q):=by
 rw [Rat.mul_def'];have:=hp.pos;refine jD ?_ (cx hp.2 hq.2) (by omega);rw [Int.natAbs_mul];exact cx hp.1 hq.1
theorem qB.neg {n:Nat} {q:Rat} (h:qB n q):qB n (-q):=by
 unfold qB;rw [Rat.neg_num,Rat.neg_den,Int.natAbs_neg];exact h
theorem qB.sub {m n:Nat} {p q:Rat} (hp:qB m p) (hq:qB n q):qB (m+n+1) (p-q):=by
 rw [Rat.sub_eq_add_neg];exact hp.add hq.neg
theorem ro {n:Nat} {q:Rat} (h:qB n q):(enc q).num.size<=n/\(enc q).den.size<=n:=by
 constructor
 ·show (ae _).size<=n;rw [aL];exact aA h.1
 unfold enc;simp only;split
 ·exact Nat.zero_le _
 rw [aL];exact aA h.2
theorem wN {n:Nat} {r:GRat} (hn:0<n) (h1:r.num.size<=n) (h2:r.den.size<=n):qB n (qOf r):=by
 by_cases h:bL r=true
 ·have e:=rn h;have a:=lv (qOf r);have b:=lu (qOf r);rw [e] at a b;have p1:=Nat.pow_le_pow_right (show 0<256 by decide) h1;have p2:=Nat.pow_le_pow_right (show 0<256 by decide) h2;have q1:=bD r.num;have q2:=bD r.den;have h1:1<256^n:=Nat.one_lt_pow (by omega) (by decide);refine ⟨by omega,?_⟩;rw [←b];unfold tC;split<;>omega
 rw [oW (by simpa using h)];exact oX.mono hn
end Go.Proofs.YtclkgcigacbmiaaGreatDoor
end
section
/- Rational numbers: what sums, products and quotients of numerators and denominators are: plain. -/
namespace Go.Proofs.YtclkgcigacbmiaaGreatDoor
def aG (q:Rat):Bool:=decide (q.num<0)
theorem cD (q:Rat):sg (aG q) q.num.natAbs=q.num:=vD _
theorem iv (b:Bool) (x y:Nat):sg b x+sg b y=sg b (x+y):=by unfold sg;cases b<;>simp<;>omega
theorem kq {b c:Bool} {x y:Nat} (h:b≠c) (hxy:x<y):sg b x+sg c y=sg c (y-x):=by
 unfold sg;cases b<;>cases c<;>simp at * <;>omega
theorem kr {b c:Bool} {x y:Nat} (h:b≠c) (hxy:y<=x):sg b x+sg c y=sg b (x-y):=by
 unfold sg;cases b<;>cases c<;>simp at * <;>omega
theorem dp (b:Bool) (x d:Nat):sg b x*(d:Int)=sg b (x*d):=by unfold sg;cases b<;>simp [Int.neg_mul]
theorem rp (b c:Bool) (x y:Nat):sg b x*sg c y=sg (b !=c) (x*y):=by unfold sg;cases b<;>cases c<;>simp [Int.neg_mul,Int.mul_neg]
theorem lw (p q:Rat):p+q=mkRat (sg (aG p) (p.num.natAbs*q.den)+sg (aG q) (q.num.natAbs*p.den)) (p.den*q.den):=by
 rw [Rat.add_def',←dp,←dp,cD,cD]
theorem jE {p q:Rat} (h:p.den=q.den):p+q=mkRat (sg (aG p) p.num.natAbs+sg (aG q) q.num.natAbs) p.den:=by
 rw [Rat.add_def',cD,cD,←h,←Int.add_mul,Rat.mkRat_mul_right p.den_nz]
theorem pY {p q:Rat} (h:aG p=aG q):p+q=mkRat (sg (aG p) (p.num.natAbs*q.den+q.num.natAbs*p.den)) (p.den*q.den):=by
 rw [lw,←h,iv]
theorem tD {p q:Rat} (h:aG p≠aG q) (hl:p.num.natAbs*q.den<q.num.natAbs*p.den):p+q=mkRat (sg (aG q) (q.num.natAbs*p.den-p.num.natAbs*q.den)) (p.den*q.den):=by
 rw [lw,kq h hl]
theorem tE {p q:Rat} (h:aG p≠aG q) (hl:q.num.natAbs*p.den<=p.num.natAbs*q.den):p+q=mkRat (sg (aG p) (p.num.natAbs*q.den-q.num.natAbs*p.den)) (p.den*q.den):=by
 rw [lw,kr h hl]
theorem nJ {p q:Rat} (hd:p.den=q.den) (h:aG p=aG q):p+q=mkRat (sg (aG p) (p.num.natAbs+q.num.natAbs)) p.den:=by
 rw [jE hd,←h,iv]
theorem rq {p q:Rat} (hd:p.den=q.den) (h:aG p≠aG q) (hl:p.num.natAbs<q.num.natAbs):p+q=mkRat (sg (aG q) (q.num.natAbs-p.num.natAbs)) p.den:=by
 rw [jE hd,kq h hl]
theorem rt {p q:Rat} (hd:p.den=q.den) (h:aG p≠aG q) (hl:q.num.natAbs<=p.num.natAbs):p+q=mkRat (sg (aG p) (p.num.natAbs-q.num.natAbs)) p.den:=by
 rw [jE hd,kr h hl]
theorem tF (p q:Rat):p*q=mkRat (sg (aG p !=aG q) (p.num.natAbs*q.num.natAbs)) (p.den*q.den):=by
 rw [Rat.mul_def',←rp,cD,cD]
theorem oY {p q:Rat} (hq:q≠0):p/q=mkRat (sg (aG p !=aG q) (p.num.natAbs*q.den)) (p.den*q.num.natAbs):=by
 have hn:q.num≠0:=fun h=>hq (Rat.num_eq_zero.1 h)
 have hnn:p.den*q.num.natAbs≠0:=Nat.mul_ne_zero p.den_nz (by omega);have e:mkRat (sg (aG p !=aG q) (p.num.natAbs*q.den)) (p.den*q.num.natAbs)*q=p:=by
  have e1:q=mkRat (sg (aG q) q.num.natAbs) q.den:=by rw [cD,Rat.mkRat_self]
  have e2:p=mkRat (sg (aG p) p.num.natAbs) p.den:=by rw [cD,Rat.mkRat_self]
  conv=>lhs;rhs;rw [e1]
  conv=>rhs;rw [e2]
  rw [Rat.mkRat_mul_mkRat,rp,show ((aG p !=aG q) !=aG q)=aG p by cases aG p<;>cases aG q<;>rfl];rw [show p.num.natAbs*q.den*q.num.natAbs=p.num.natAbs*(q.den*q.num.natAbs) by rw [Nat.mul_assoc],←dp];rw [show p.den*q.num.natAbs*q.den=p.den*(q.den*q.num.natAbs) by rw [Nat.mul_assoc,Nat.mul_comm q.num.natAbs]];exact Rat.mkRat_mul_right (Nat.mul_ne_zero q.den_nz (by omega))
 have h2:p/q*q=p:=Rat.div_mul_cancel hq;have h3:=e.trans h2.symm;have h4:=congrArg (·*q⁻¹) h3;simp only [Rat.mul_assoc,Rat.mul_inv_cancel _ hq,Rat.mul_one] at h4;exact h4.symm
def eW (p q:Rat):Int:=if p<q then -1 else if q<p then 1 else 0
def iM (x y:Nat):Int:=if x<y then -1 else if y<x then 1 else 0
theorem oZ (p q:Rat):p<q↔sg (aG p) (p.num.natAbs*q.den)<sg (aG q) (q.num.natAbs*p.den):=by
 rw [Rat.lt_iff,←dp,←dp,cD,cD]
theorem eX (q:Rat):aG q=true↔q<0:=by
 unfold aG;rw [decide_eq_true_iff,Rat.lt_iff];simp
theorem ru (q:Rat):(aG q=false/\q≠0)↔0<q:=by
 rw [←Bool.not_eq_true,eX,Rat.not_lt];constructor
 ·rintro ⟨h1,h2⟩;exact Rat.lt_of_le_of_ne h1 (fun h=>h2 h.symm)
 intro h;exact ⟨Rat.le_of_lt h,Rat.ne_of_gt h⟩
def ye (r:GRat):Int:=if r.num.size=0 then 0 else if r.neg=true then -1 else 1
def g9 (q:Rat):Int:=eW q 0
theorem ry (q:Rat):ye (enc q)=g9 q:=by
 unfold ye g9 eW;by_cases h0:q=0
 ·rw [if_pos ((dS q).2 h0)];subst h0;simp [Rat.lt_irrefl]
 rw [if_neg (fun h=>h0 ((dS q).1 h))];show (if aG q=true then _ else _)=_;by_cases h:aG q=true
 ·rw [if_pos h,if_pos ((eX q).1 h)]
 rw [if_neg h,if_neg (fun h'=>h ((eX q).2 h')),if_pos ((ru q).1 ⟨by simpa using h,h0⟩)]
theorem rz {p q:Rat} (hp:aG p=false) (hq:aG q=false):eW p q=iM (p.num.natAbs*q.den) (q.num.natAbs*p.den):=by
 unfold eW iM;simp only [oZ,hp,hq,sg];simp only [Bool.false_eq_true,if_false,Int.ofNat_lt]
theorem rA {p q:Rat} (hp:aG p=true) (hq:aG q=true):eW p q= - iM (p.num.natAbs*q.den) (q.num.natAbs*p.den):=by
 unfold eW iM;simp only [oZ,hp,hq,sg];simp only [if_true];by_cases h1:p.num.natAbs*q.den<q.num.natAbs*p.den
 ·rw [if_neg (by omega),if_pos (by omega),if_pos h1];rfl
 by_cases h2:q.num.natAbs*p.den<p.num.natAbs*q.den
 ·rw [if_pos (by omega),if_neg h1,if_pos h2]
 rw [if_neg (by omega),if_neg (by omega),if_neg h1,if_neg h2];rfl
theorem rB {p q:Rat} (h:g9 p≠g9 q):eW p q=if g9 p<g9 q then -1 else 1:=by
 unfold g9 eW at *
 grind
theorem tG {p q:Rat} (h:g9 p=g9 q):(aG p=true/\aG q=true)∨(aG p=false/\aG q=false):=by
 have a:=eX p;have b:=eX q;unfold g9 eW at h;grind
theorem tH (q:Rat):(if (enc q).num.size=0 then enc q else ⟨!(enc q).neg,(enc q).num,(enc q).den⟩)=enc (-q):=by
 by_cases h0:q=0
 ·rw [if_pos ((dS q).2 h0)];subst h0;rfl
 rw [if_neg (fun h=>h0 ((dS q).1 h))];have hn:q.num≠0:=fun h=>h0 (Rat.num_eq_zero.1 h)
 unfold enc;simp only [Rat.neg_num,Rat.neg_den,Int.natAbs_neg];congr 1;rw [←decide_not];apply decide_eq_decide.2;omega
theorem tI (z:Int):enc (z:Rat)=⟨decide (z<0),ae z.natAbs,aD⟩:=by
 simp only [enc,Rat.num_intCast,Rat.den_intCast,if_true];rfl
end Go.Proofs.YtclkgcigacbmiaaGreatDoor
end
namespace Go.Proofs.YtclkgcigacbmiaaGreatDoor
open Go.RowKit Go.Proofs.Tryz
theorem pZ:ab 1=[1]:=by rw [cb (by decide)];simp [aF]
def yf:Prop:=∀(S:Nat->Prop) (u v:Value) (x y:Nat) (w:World),(∀b,S b->b<w.heap.size)->(ab x).length<=999999999999->0<y->al 1 aE w S [u] (ab x)->al 1 aE w S [v] (ab y)->
  Calls prog 295 #[u,v] w fun e w'=>∃q r,e= .returned (.tuple #[q,r])/\al 1 aE w' (LT w'.heap.size) [q] (ab (x/y))/\al 1 aE w' (LT w'.heap.size) [r] (ab (x%y))/\Below w.heap.size w w'
theorem nK (hdiv:yf) (u v:Value) (A B:Nat) (w:World) (hla:(ab A).length<=999999999999) (hlb:(ab B).length<=999999999999) (hu:al 1 aE w (LT w.heap.size) [u] (ab A)) (hv:al 1 aE w (LT w.heap.size) [v] (ab B)):
  Calls prog 294 #[u,v] w fun e w'=>∃r,e= .returned r/\al 1 aE w' (LT w'.heap.size) [r] (ab (Nat.gcd A B))/\Below w.heap.size w w':=by
 have HU2:=hid hu;have HV2:=hid hv;have HB:=hid (Below.refl w.heap.size w);have HLa:=hid hla;have HLb:=hid hlb;have HDIV:=hid hdiv;clear hla hlb hu hv hdiv;go_enter func294,ntmps294
 go_wp2
 go_loopw [0,1,5,6] (fun p q _ _ wr=>∃(x y:Nat),Hid (al 1 aE wr (LT wr.heap.size) [p] (ab x))/\Hid (al 1 aE wr (LT wr.heap.size) [q] (ab y))/\Hid (Below w.heap.size w wr)/\Hid (Nat.gcd x y=Nat.gcd A B)/\Hid ((ab x).length<=999999999999)/\Hid ((ab y).length<=999999999999)) (fun _ q _ _ wr=>mJ wr q)
 case atStart=>exact ⟨A,B,HU2,HV2,HB,rfl,HLa,HLb⟩
 case round=>
  clear HU2 HV2 HB;obtain ⟨x,y,HX,HY,HB,HG,HLx,HLy⟩:=hrel;have hy:=HY.out;have hms:=hid (gr hy);rw [ah] at hms;obtain ⟨qa,qc,rfl,q1,q2,q3,q4⟩:=aw hy;clear q4 hy;by_cases h0:0<y
  ·have hyl:=bg h0;have HD:=hid (HDIV.out _ _ _ x y _ (fun _ h=>h) HLx.out h0 HX.out HY.out);have HLr:=hid (Nat.le_trans (cV (Nat.le_of_lt (Nat.mod_lt x h0))) HLy.out);have HGr:=hid (show Nat.gcd y (x%y)=Nat.gcd A B by rw [←HG.out,Nat.gcd_comm y,←Nat.gcd_rec,Nat.gcd_comm]);have H0:=hid (Nat.mod_lt x h0);generalize x%y=z at *
   obtain ⟨n,hn⟩:∃n,n=(ab y).length:=⟨_,rfl⟩;rw [←hn] at HD HY q1 hms hyl ⊢;clear HLx HG HX h0 hn;go_wp2_with fail
   refine Calls.mono HD.out ?_;rintro e w3 ⟨q',r',rfl,hq,hr,hb3⟩;have HR:=hid hr;have HB3:=hid (HB.out.step hb3);have hms3:=hid (gr hr);rw [ah] at hms3;have HY3:=hid ((aq ay).below HY.out hb3 hb3.size);clear hq hr;go_wp2
   go_roundw
   case rel=>exact ⟨y,z,HY3,HR,HB3,HGr,HLy,HLr⟩
   case measure=>
    have e1:=hms.out;have e2:=hms3.out;have e3:=H0.out;rw [e1];rw [e2];exact e3
  have hy0:y=0:=by omega
  subst hy0;rw [aF] at q1 hms ⊢;have hg:=HG.out;rw [Nat.gcd_zero_right] at hg;rw [hg] at HX;go_wp2
  go_ret
  exact ⟨_,rfl,HX.out,HB.out⟩
theorem lx (S:Nat->Prop) (u v:Value) (x y:Nat) (w:World) (hS:∀b,S b->b<w.heap.size) (hl:(ab x).length<=999999999999) (hxy:y<=x) (hy2:2<=(ab y).length) (hu:al 1 aE w S [u] (ab x)) (hv:al 1 aE w S [v] (ab y)):
  Calls prog 295 #[u,v] w fun e w'=>∃q r,e= .returned (.tuple #[q,r])/\al 1 aE w' (LT w'.heap.size) [q] (ab (x/y))/\al 1 aE w' (LT w'.heap.size) [r] (ab (x%y))/\Below w.heap.size w w':=by
 have hc:=gY S u v x y w hS hu hv;have hcn:¬aC x y<0:=by unfold aC;rw [if_neg (by omega)];split<;>omega
 have HC:=hid hc;clear hc;have HL:=hid (fun (w1:World) (hb:Below w.heap.size w w1)=>pV (LT w1.heap.size) u v x y w1 (fun _ h=>h) hl hxy hy2
  ((aq ay) _ _ _ _ _ _ hu (fun b h=>hb.block b (hS b h)) fun b h=>Nat.lt_of_lt_of_le (hS b h) hb.size)
  ((aq ay) _ _ _ _ _ _ hv (fun b h=>hb.block b (hS b h)) fun b h=>Nat.lt_of_lt_of_le (hS b h) hb.size))
 obtain ⟨va,vc,rfl,v1,v2,v3,v4⟩:=aw hv;obtain ⟨n,hn⟩:∃n,n=(ab y).length:=⟨_,rfl⟩;rw [←hn] at hy2 HC HL ⊢;have hne1:¬((n:Int)=1):=by omega
 clear hv v4 hn v1 hu;go_enter func295,ntmps295
 go_wp2_with fail
 refine Calls.mono HC.out ?_;rintro e w1 ⟨rfl,hb1⟩;go_wp2_with fail
 refine Calls.mono (HL.out _ hb1) ?_;rintro e w2 ⟨q,r,rfl,hq,hr,hb2⟩;go_wp2
 go_ret2
 exact ⟨_,_,rfl,hq,hr,hb1.step hb2⟩
theorem iw:yf:=by
 intro S u v x y w hS hl hy hu hv;have:=bg hy;by_cases h1:x<y
 ·exact nG S u v x y w hS h1 hu hv
 by_cases h2:(ab y).length=1
 ·exact jT S u v x y w hS (by omega) (by omega) h2 hu hv
 exact lx S u v x y w hS hl (by omega) (by omega) hu hv
def RNat (w:World) (v:Value) (n:Nat):Prop:=al 1 aE w (LT w.heap.size) [v] (ab n)
theorem RNat.below {w w':World} {v:Value} {n:Nat} (h:RNat w v n) (hb:Below w.heap.size w w'):RNat w' v n:=(aq ay).below h hb hb.size
theorem RNat.alloc {w:World} {v:Value} {n:Nat} (h:RNat w v n) (o:Obj):RNat (w.alloc o) v n:=h.below ((Below.refl _ _).alloc (Nat.le_refl _) _)
def NB (k n:Nat):Prop:=n<256^k
theorem NB.limbs {k n:Nat} (h:NB k n):(ab n).length<=k:=Nat.le_trans (eb _) (aA h)
theorem NB.mono {j k n:Nat} (h:NB j n) (hk:j<=k):NB k n:=Nat.lt_of_lt_of_le h (Nat.pow_le_pow_right (by decide) hk)
theorem NB.le {k m n:Nat} (h:NB k n) (hm:m<=n):NB k m:=Nat.lt_of_le_of_lt hm h
theorem NB.mul {j k m n:Nat} (h:NB j m) (h':NB k n):NB (j+k) (m*n):=cx h h'
theorem NB.add {j m n:Nat} (h:NB j m) (h':NB j n):NB (j+1) (m+n):=by
 unfold NB at *
 rw [Nat.pow_succ];omega
theorem NB.str {k:Nat} {s:ByteArray} (h:s.size<=k):NB k (ac s):=Nat.lt_of_lt_of_le (bD s) (Nat.pow_le_pow_right (by decide) h)
theorem vE {u:Value} {x k:Nat} {w:World} (hx:NB k x) (hk:k<=1000000000000) (hu:RNat w u x):
  Calls prog 210 #[u] w fun e w'=>e= .returned (.string (ae x))/\Below w.heap.size w w':=by
 have:=ko _ u (ab x) w (fun _ h=>h) (Nat.le_trans hx.limbs hk) hu;rwa [ah] at this
theorem o5 {u v:Value} {x y k:Nat} {w:World} (hx:NB k x) (hk:k<=900000000000) (hy:0<y) (hu:RNat w u x) (hv:RNat w v y):
  Calls prog 295 #[u,v] w fun e w'=>∃q r,e= .returned (.tuple #[q,r])/\RNat w' q (x/y)/\RNat w' r (x%y)/\Below w.heap.size w w':=
 iw _ u v x y w (fun _ h=>h) (Nat.le_trans hx.limbs (by omega)) hy hu hv
theorem tJ {u v:Value} {x y k:Nat} {w:World} (hx:NB k x) (hy:NB k y) (hk:k<=900000000000) (hu:RNat w u x) (hv:RNat w v y):
  Calls prog 294 #[u,v] w fun e w'=>∃r,e= .returned r/\RNat w' r (Nat.gcd x y)/\Below w.heap.size w w':=
 nK iw u v x y w (Nat.le_trans hx.limbs (by omega)) (Nat.le_trans hy.limbs (by omega)) hu hv
theorem rD (s:ByteArray) (w:World) (hs:s.size<=1000000000000):
  Calls prog 203 #[.string s] w fun e w'=>∃u,e= .returned u/\RNat w' u (ac s)/\Below w.heap.size w w':=pT s w hs
theorem RNat.kind {w:World} {u:Value} {n:Nat} (h:RNat w u n) (h0:0<n):
  ∃b off m c x,u= .slice (some ⟨b,off,none⟩) m c/\b<w.heap.size/\w.cell? ⟨b,off,none⟩=some (.int .u32 (x:Nat))/\m<=9223372036854775807/\((m=1/\x=n)∨(1<m/\1<n)):=by
 obtain ⟨a,c,rfl,h1,h2,h3,h4⟩:=aw h;have hl:=bg h0;rcases h4 with h4|⟨b,off,rfl,h4⟩
 ·rw [h4] at hl;simp at hl
 refine ⟨b,off,_,c,_,rfl,h4.1,(h4.u32 hl).1,by unfold maxLen at h2;omega,?_⟩;by_cases hm:(ab n).length=1
 ·exact .inl ⟨hm,by have:=(eQ hm).1;simp only [this,List.getElem_cons_zero]⟩
 refine .inr ⟨by omega,?_⟩;rcases Nat.lt_or_ge 1 n with h5|h5
 ·exact h5
 exfalso;have:n=1:=by omega
 subst this;rw [pZ] at hm;simp at hm
theorem RNat.zero {w:World} {u:Value} (h:RNat w u 0):∃a c,u= .slice a 0 c:=by
 obtain ⟨a,c,rfl,_⟩:=aw h;rw [aF];exact ⟨a,c,rfl⟩
def Blk3 (w:World) (b:Nat) (T:Nat) (x y z:Value):Prop:=w.heap[b]? =some (.cells #[x,y,z] T (0,0))
theorem Blk3.new (w:World) (T:Nat) (x y z:Value):Blk3 (w.alloc (.cells #[x,y,z] T)) w.heap.size T x y z:=heap_alloc_new w _
theorem Blk3.below {w w':World} {b T B:Nat} {x y z:Value} (h:Blk3 w b T x y z) (hb:Below B w w') (hB:b<B):Blk3 w' b T x y z:=by
 unfold Blk3 at *;rw [hb.block b hB];exact h
theorem Blk3.lt {w:World} {b T:Nat} {x y z:Value} (h:Blk3 w b T x y z):b<w.heap.size:=(Array.getElem?_eq_some_iff.1 h).1
theorem Blk3.alloc {w:World} {b T:Nat} {x y z:Value} (h:Blk3 w b T x y z) (o:Obj):Blk3 (w.alloc o) b T x y z:=by
 unfold Blk3 at *;rw [Below.heap_alloc _ _ _ (Blk3.lt h)];exact h
theorem Blk3.cells {w:World} {b T:Nat} {x y z:Value} (h:Blk3 w b T x y z):
  w.cell? ⟨b,0,none⟩=some x/\w.cell? ⟨b,1,none⟩=some y/\w.cell? ⟨b,2,none⟩=some z/\(∀j,w.frozen? ⟨b,j,none⟩=false):=by
 unfold Blk3 at h;simp [World.cell?,World.frozen?,h]
theorem Blk3.set0 {w:World} {b T:Nat} {x y z:Value} (h:Blk3 w b T x y z) (v:Value):Blk3 (w.setCell ⟨b,0,none⟩ v) b T v y z:=by
 unfold Blk3 at *;rw [heap_setCell_same w b 0 _ T v h];rfl
theorem Blk3.set1 {w:World} {b T:Nat} {x y z:Value} (h:Blk3 w b T x y z) (v:Value):Blk3 (w.setCell ⟨b,1,none⟩ v) b T x v z:=by
 unfold Blk3 at *;rw [heap_setCell_same w b 1 _ T v h];rfl
theorem Blk3.set2 {w:World} {b T:Nat} {x y z:Value} (h:Blk3 w b T x y z) (v:Value):Blk3 (w.setCell ⟨b,2,none⟩ v) b T x y v:=by
 unfold Blk3 at *;rw [heap_setCell_same w b 2 _ T v h];rfl
theorem Blk3.other {w:World} {b b' T:Nat} {x y z:Value} (h:Blk3 w b T x y z) (hne:b'≠b) (p:Nat) (v:Value):Blk3 (w.setCell ⟨b',p,none⟩ v) b T x y z:=by
 unfold Blk3 at *;rw [Below.heap_setCell _ _ _ _ (fun e=>hne e.symm)];exact h
theorem Blk3.stored {X:World} {b T:Nat} {x y z:Value} (h:Blk3 X b T x y z) (x' y' z':Value):
  (X.setCell ⟨b,0,none⟩ x').cell? ⟨b,0,none⟩=some x'/\((X.setCell ⟨b,0,none⟩ x').setCell ⟨b,1,none⟩ y').cell? ⟨b,1,none⟩=some y'/\
  (((X.setCell ⟨b,0,none⟩ x').setCell ⟨b,1,none⟩ y').setCell ⟨b,2,none⟩ z').cell? ⟨b,2,none⟩=some z'/\Blk3 (((X.setCell ⟨b,0,none⟩ x').setCell ⟨b,1,none⟩ y').setCell ⟨b,2,none⟩ z') b T x' y' z':=
 ⟨(h.set0 x').cells.1,((h.set0 x').set1 y').cells.2.1,(((h.set0 x').set1 y').set2 z').cells.2.2.1,((h.set0 x').set1 y').set2 z'⟩
theorem aR {P:Program} {fn:Func} {R:Ending->World->Prop} {a:Act} {W:World} {b T:Nat} {x y z:Value} (h:Blk3 W b T x y z)
  (hres:∀W',W'.cell? ⟨b,0,none⟩=some x->W'.cell? ⟨b,1,none⟩=some y->W'.cell? ⟨b,2,none⟩=some z->(results fn a.tmps).run P W'= .ok (.agg #[x,y,z]) W') (hd:a.defers=[]) (hR:R (.returned (.agg #[x,y,z])) W):bodyPost P fn R .ret a W:=
 bodyPost_ret (hres W h.cells.1 h.cells.2.1 h.cells.2.2.1) hd hR
theorem jU (neg:Bool) (u v:Value) (w:World) (hu:RNat w u 0):
  Calls prog 204 #[.bool neg,u,v] w fun e w'=>e= .returned (az (enc 0))/\Below w.heap.size w w':=by
 obtain ⟨a,c,rfl⟩:=hu.zero;rw [gx];unfold az aD;clear hu;go_enter func204,ntmps204
 go_wp2
 go_returns
 exact ⟨rfl,(Below.refl _ _).alloc (Nat.le_refl _) _⟩
theorem ly (neg:Bool) (u v:Value) (n d k:Nat) (w:World) (hn:NB k n) (hd:NB k d) (hk:k<=900000000000) (hn0:0<n) (hd0:0<d) (hu:RNat w u n) (hv:RNat w v d):
  Calls prog 204 #[.bool neg,u,v] w fun e w'=>e= .returned (az (enc (mkRat (sg neg n) d)))/\Below w.heap.size w w':=by
 have HE:=hid (kp (neg:=neg) (n:=n) (d:=d) (by omega) (by omega));rw [HE.out];unfold az;simp only;clear HE;obtain ⟨g,hg⟩:∃g,g=Nat.gcd n d:=⟨_,rfl⟩;have hg0:0<g:=by rw [hg];exact Nat.gcd_pos_of_pos_left _ hn0
 have hgn:g<=n:=by rw [hg];exact Nat.gcd_le_left _ hn0
 have hgd:g<=d:=by rw [hg];exact Nat.gcd_le_right _ hd0
 have hdg:0<d/g:=Nat.div_pos hgd hg0;rw [←hg];obtain ⟨ub,uoff,um,uc,ux,hu1,hu2,hu3,hu4,hu5⟩:=hu.kind hn0;have hum:0<um:=by omega
 have HU:=hid hu;have HV:=hid hv;subst hu1;have HC:=hid (fun (w':World) (hb:Below w.heap.size w w')=>tJ hn hd hk (HU.out.below hb) (HV.out.below hb));simp only [←hg] at HC;have HNg:=hid (show NB k (n/g)/\NB k (d/g) from ⟨hn.le (Nat.div_le_self _ _),hd.le (Nat.div_le_self _ _)⟩);have HN:=hid hn;have HD:=hid hd;clear hn hd hn0 hd0 hgn hgd hu hv hu3 hu5 hg;go_enter func204,ntmps204
 go_wp2_with fail
 refine Calls.mono (HC.out _ ((Below.refl _ _).alloc (Nat.le_refl _) _)) ?_;rintro e w1 ⟨r,rfl,hr,hb1⟩;have hB1:Blk3 w1 w.heap.size 48 _ _ _:=(Blk3.new w _ _ _ _).below hb1 (by simp);have hs1:w.heap.size+1<=w1.heap.size:=by have:=hb1.size;simpa using this
 have HB1:=hid hB1;obtain ⟨rb,roff,rm,rc,rx,hr1,hr2,hr3,hr4,hr5⟩:=hr.kind hg0;have HR:=hid hr;subst hr1;clear hB1 hr HC;have hbw1:Below w.heap.size w w1:=((Below.refl _ _).alloc (Nat.le_refl _) _).step hb1;go_upto_region 4 with fail
 go_cut [24] (fun s24 wx=>s24= .bool (decide (1<g))/\w1=wx)
 case first=>
  rcases hr5 with ⟨rfl,rfl⟩|⟨h1,h2⟩
  ·go_wp2
   all_goals
    go_meet
    case rel=>exact ⟨congrArg Value.bool (decide_eq_decide.2 (by omega)),rfl⟩
  go_wp2
  go_meet
  case rel=>exact ⟨congrArg Value.bool (by simp [h2]),rfl⟩
 case rest=>
 obtain ⟨rfl,rfl⟩:=hcut;go_upto_if 24 with fail
 go_cut [1,2,25,31] (fun s1 s2 _ _ wx=>RNat wx s1 (n/g)/\RNat wx s2 (d/g)/\Below (w.heap.size+1) w1 wx)
 case first=>
  by_cases hg1:1<g
  ·have HD1:=hid (o5 HN.out hk hg0 (HU.out.below hbw1) HR.out);have HG1:=hid hg1;clear hr5;go_wp2_with fail
   refine Calls.mono HD1.out ?_;rintro e w2 ⟨q1,r1,rfl,hq1,_,hb2⟩;have HD2:=hid (o5 HD.out hk hg0 (HV.out.below (hbw1.step hb2)) (HR.out.below hb2));clear HD1;go_wp2_with fail
   refine Calls.mono HD2.out ?_;rintro e w3 ⟨q2,r2,rfl,hq2,_,hb3⟩;go_wp2
   go_meet
   case rel=>exact ⟨hq1.below hb3,hq2,(hb2.step hb3).mono hs1⟩
  obtain rfl:g=1:=by omega
  go_wp2
  go_meet
  case rel=>exact ⟨by rw [Nat.div_one];exact HU.out.below hbw1,by rw [Nat.div_one];exact HV.out.below hbw1,Below.refl _ _⟩
 case rest=>
  obtain ⟨hq1,hq2,hbc⟩:=hcut;have HT:=hid (vE HNg.out.1 (Nat.le_trans hk (by decide)) hq1);obtain ⟨db,doff,dm,dc,dx,hd1,hd2,hd3,hd4,hd5⟩:=hq2.kind hdg;have hBc:=HB1.out.below hbc (Nat.lt_succ_self _);have HDQ:=hid hq2;subst hd1;clear hq1 hq2 hr5 hr3 HU HV HB1 HR;go_wp2_with fail
  refine Calls.mono HT.out ?_;rintro e w5 ⟨rfl,hb5⟩;have hB5:=hid (hBc.below hb5 hBc.lt);obtain ⟨z0,z1,z2,z3⟩:=hB5.out.cells;have hlt5:=hB5.out.lt;rw [←hb5.cell (p:=⟨db,doff,none⟩) hd2] at hd3;have hd25:db<w5.heap.size:=Nat.lt_of_lt_of_le hd2 hb5.size;have hbw5:Below w.heap.size w w5:=Below.step (hbw1.trans (hbc.mono (Nat.le_succ _))) hb5;clear hd2;have HT2:=hid (fun (w':World) (hb:Below w5.heap.size w5 w')=>vE HNg.out.2 (Nat.le_trans hk (by decide)) ((HDQ.out.below hb5).below hb));go_upto_region 8 with fail
  go_cut [49] (fun s49 wx=>s49= .bool (decide (1<d/g))/\(w5.alloc (.cells #[.bool neg,.string (ae (n/g)),.string {data:= #[]}] 48))=wx)
  case first=>
   rcases hd5 with ⟨rfl,rfl⟩|⟨h1,h2⟩
   ·go_wp2
    all_goals
     go_meet
     case rel=>exact ⟨congrArg Value.bool (decide_eq_decide.2 (by omega)),rfl⟩
   go_wp2
   go_meet
   case rel=>exact ⟨congrArg Value.bool (by simp [h2]),rfl⟩
  case rest=>
  obtain ⟨rfl,rfl⟩:=hcut;have hba:Below w5.heap.size w5 (w5.alloc (.cells #[.bool neg,.string (ae (n/g)),.string {data:= #[]}] 48)):=(Below.refl _ _).alloc (Nat.le_refl _) _;clear hd5;by_cases hg1:1<d/g
  ·have HIF:=hid (show (if d/g=1 then aD else ae (d/g))=ae (d/g) from if_neg (by omega));clear z0 z1 z2 z3;go_wp2_with fail
   refine Calls.mono (HT2.out _ hba) ?_;rintro e w6 ⟨rfl,hb6⟩;have hB6:=(hB5.out.alloc (.cells #[.bool neg,.string (ae (n/g)),.string {data:= #[]}] 48)).below hb6 (by simp;omega);obtain ⟨z0,z1,z2,z3⟩:=hB6.cells;have hA6:=(Blk3.new w5 48 (.bool neg) (.string (ae (n/g))) (.string {data:= #[]})).below hb6 (by simp);obtain ⟨y0,y1,y2,y3⟩:=hA6.cells;have hl6:=hA6.lt;have hne:w.heap.size≠w5.heap.size:=by omega
   have HX:=hid (show w.heap.size<=w5.heap.size/\Below w.heap.size w w6 from ⟨by omega,(hbw5.step hba).step hb6⟩);obtain ⟨s0,s1,s2,s3⟩:=(hB6.other (b':=w5.heap.size) hne.symm 2 (.string (ae (d/g)))).stored (.bool neg) (.string (ae (n/g))) (.string (ae (d/g)));have S3:=hid s3;clear hB6 hA6 hba hbw5 hb6 hB5 s0 s1 s2 s3;go_wp2
   refine aR S3.out (fun W' c0 c1 c2=>by simp [results,Tryz.results204,go_sem,c0,c1,c2]) rfl ?_;refine ⟨?_,(((HX.out.2.setCell HX.out.1 _).setCell (Nat.le_refl _) _).setCell (Nat.le_refl _) _).setCell (Nat.le_refl _) _⟩;first|rfl|(rw [HIF.out])
  have HIF:=hid (show (if d/g=1 then aD else ae (d/g))=aD from if_pos (by omega));obtain ⟨_,_,_,s3⟩:=hB5.out.stored (.bool neg) (.string (ae (n/g))) (.string {data:= #[]});have S3:=hid (s3.alloc (.cells #[.bool neg,.string (ae (n/g)),.string {data:= #[]}] 48));have HX:=hid (show w.heap.size<=w5.heap.size/\Below w.heap.size w w5 from ⟨by omega,hbw5⟩);clear s3 hbw5 hba;go_wp2
  refine aR S3.out (fun W' c0 c1 c2=>by simp [results,Tryz.results204,go_sem,c0,c1,c2]) rfl ?_;refine ⟨?_,(((HX.out.2.setCell (Nat.le_refl _) _).setCell (Nat.le_refl _) _).setCell (Nat.le_refl _) _).alloc (by simpa using HX.out.1) _⟩;first|rfl|(rw [HIF.out];rfl)
theorem lz (neg:Bool) (u v:Value) (n d k:Nat) (w:World) (hn:NB k n) (hd:NB k d) (hk:k<=900000000000) (hd0:0<d) (hu:RNat w u n) (hv:RNat w v d):
  Calls prog 204 #[.bool neg,u,v] w fun e w'=>e= .returned (az (enc (mkRat (sg neg n) d)))/\Below w.heap.size w w':=by
 rcases Nat.eq_zero_or_pos n with h|h
 ·subst h;rw [oV,Rat.zero_mkRat];exact jU neg u v w hu
 exact ly neg u v n d k w hn hd hk h hd0 hu hv
theorem RNat.drew {w:World} {v:Value} {n:Nat} (h:RNat w v n):RNat w.drew v n:=h
def Bx (w:World) (b:Nat) (r:GRat):Prop:=Blk3 w b 48 (.bool r.neg) (.string r.num) (.string r.den)
theorem Bx.below {w w':World} {b:Nat} {r:GRat} (h:Bx w b r) (hb:Below w.heap.size w w'):Bx w' b r:=Blk3.below h hb (Blk3.lt h)
theorem Bx.new (w:World) (r:GRat):Bx (w.alloc (.cells #[.bool r.neg,.string r.num,.string r.den] 48)) w.heap.size r:=Blk3.new w _ _ _ _
theorem Bx.alloc {w:World} {b:Nat} {r:GRat} (h:Bx w b r) (o:Obj):Bx (w.alloc o) b r:=Blk3.alloc h o
theorem Bx.drew {w:World} {b:Nat} {r:GRat} (h:Bx w b r):Bx w.drew b r:=h
theorem Bx.facts {w:World} {b:Nat} {r:GRat} (h:Bx w b r):
  w.cell? ⟨b,0,none⟩=some (.bool r.neg)/\w.cell? ⟨b,1,none⟩=some (.string r.num)/\w.cell? ⟨b,2,none⟩=some (.string r.den)/\(∀j,w.frozen? ⟨b,j,none⟩=false)/\b<w.heap.size:=
 ⟨h.cells.1,h.cells.2.1,h.cells.2.2.1,h.cells.2.2.2,Blk3.lt h⟩
def gZ:GRat:=⟨false,{data:= #[]},{data:= #[]}⟩
theorem nL:gZ=enc 0:=by rw [gx];rfl
def Bx3 (w w1:World) (r1 r2:GRat):Prop:=Bx w1 w.heap.size r1/\Bx w1 (w.heap.size+1) r2/\Bx w1 (w.heap.size+1+1) gZ/\Below w.heap.size w w1
theorem Bx3.new (w:World) (r1 r2:GRat):Bx3 w (((w.alloc (.cells #[.bool r1.neg,.string r1.num,.string r1.den] 48)).alloc (.cells #[.bool r2.neg,.string r2.num,.string r2.den] 48)).alloc (.cells #[.bool false,.string {data:= #[]},.string {data:= #[]}] 48)) r1 r2:=by
 have e1:(w.alloc (.cells #[.bool r1.neg,.string r1.num,.string r1.den] 48)).heap.size=w.heap.size+1:=by simp
 have h2:=Bx.new (w.alloc (.cells #[.bool r1.neg,.string r1.num,.string r1.den] 48)) r2;rw [e1] at h2;have e2:((w.alloc (.cells #[.bool r1.neg,.string r1.num,.string r1.den] 48)).alloc (.cells #[.bool r2.neg,.string r2.num,.string r2.den] 48)).heap.size=w.heap.size+1+1:=by simp
 have h3:=Bx.new ((w.alloc (.cells #[.bool r1.neg,.string r1.num,.string r1.den] 48)).alloc (.cells #[.bool r2.neg,.string r2.num,.string r2.den] 48)) gZ;rw [e2] at h3;exact ⟨((Bx.new w r1).alloc _).alloc _,h2.alloc _,h3,(((Below.refl _ _).alloc (Nat.le_refl _) _).alloc (by simp) _).alloc (by simp;omega) _⟩
theorem Bx3.next {w w1 w2:World} {r1 r2:GRat} (h:Bx3 w w1 r1 r2) (hb:Below w1.heap.size w1 w2):Bx3 w w2 r1 r2:=
 ⟨h.1.below hb,h.2.1.below hb,h.2.2.1.below hb,h.2.2.2.step hb⟩
theorem Bx3.ret {w w1:World} {r1 r2:GRat} (h:Bx3 w w1 r1 r2) (q:GRat):
  Blk3 (((w1.setCell ⟨w.heap.size+1+1,0,none⟩ (.bool q.neg)).setCell ⟨w.heap.size+1+1,1,none⟩ (.string q.num)).setCell ⟨w.heap.size+1+1,2,none⟩ (.string q.den)) (w.heap.size+1+1) 48 (.bool q.neg) (.string q.num) (.string q.den)/\
  Below w.heap.size w (((w1.setCell ⟨w.heap.size+1+1,0,none⟩ (.bool q.neg)).setCell ⟨w.heap.size+1+1,1,none⟩ (.string q.num)).setCell ⟨w.heap.size+1+1,2,none⟩ (.string q.den)):=
 ⟨(Blk3.stored h.2.2.1 _ _ _).2.2.2,((h.2.2.2.setCell (by simp;omega) _).setCell (by simp;omega) _).setCell (by simp;omega) _⟩
theorem Bx3.drew {w w1:World} {r1 r2:GRat} (h:Bx3 w w1 r1 r2):Bx3 w w1.drew r1 r2:=⟨h.1.drew,h.2.1.drew,h.2.2.1.drew,Below.drew h.2.2.2⟩
def Bx2 (w w1:World) (r1 r2:GRat):Prop:=Bx w1 w.heap.size r1/\Bx w1 (w.heap.size+1) r2/\Below w.heap.size w w1
theorem Bx2.new (w:World) (r1 r2:GRat):Bx2 w ((w.alloc (.cells #[.bool r1.neg,.string r1.num,.string r1.den] 48)).alloc (.cells #[.bool r2.neg,.string r2.num,.string r2.den] 48)) r1 r2:=by
 have e1:(w.alloc (.cells #[.bool r1.neg,.string r1.num,.string r1.den] 48)).heap.size=w.heap.size+1:=by simp
 have h2:=Bx.new (w.alloc (.cells #[.bool r1.neg,.string r1.num,.string r1.den] 48)) r2;rw [e1] at h2;exact ⟨(Bx.new w r1).alloc _,h2,((Below.refl _ _).alloc (Nat.le_refl _) _).alloc (by simp) _⟩
theorem Bx2.next {w w1 w2:World} {r1 r2:GRat} (h:Bx2 w w1 r1 r2) (hb:Below w1.heap.size w1 w2):Bx2 w w2 r1 r2:=
 ⟨h.1.below hb,h.2.1.below hb,h.2.2.step hb⟩
theorem Bx2.ret {w w1:World} {r1 r2:GRat} (h:Bx2 w w1 r1 r2) (q:GRat):
  Blk3 (((w1.setCell ⟨w.heap.size+1,0,none⟩ (.bool q.neg)).setCell ⟨w.heap.size+1,1,none⟩ (.string q.num)).setCell ⟨w.heap.size+1,2,none⟩ (.string q.den)) (w.heap.size+1) 48 (.bool q.neg) (.string q.num) (.string q.den)/\
  Below w.heap.size w (((w1.setCell ⟨w.heap.size+1,0,none⟩ (.bool q.neg)).setCell ⟨w.heap.size+1,1,none⟩ (.string q.num)).setCell ⟨w.heap.size+1,2,none⟩ (.string q.den)):=
 ⟨(Blk3.stored h.2.1 _ _ _).2.2.2,((h.2.2.setCell (by simp) _).setCell (by simp) _).setCell (by simp) _⟩
theorem Bx2.drew {w w1:World} {r1 r2:GRat} (h:Bx2 w w1 r1 r2):Bx2 w w1.drew r1 r2:=⟨h.1.drew,h.2.1.drew,Below.drew h.2.2⟩
def Bx1 (w w1:World):Prop:=Bx w1 w.heap.size gZ/\Below w.heap.size w w1
theorem Bx1.new (w:World):Bx1 w (w.alloc (.cells #[.bool false,.string {data:= #[]},.string {data:= #[]}] 48)):=⟨Bx.new w gZ,(Below.refl _ _).alloc (Nat.le_refl _) _⟩
theorem Bx1.next {w w1 w2:World} (h:Bx1 w w1) (hb:Below w1.heap.size w1 w2):Bx1 w w2:=⟨h.1.below hb,h.2.step hb⟩
theorem Bx1.ret {w w1:World} (h:Bx1 w w1) (q:GRat):
  Blk3 (((w1.setCell ⟨w.heap.size,0,none⟩ (.bool q.neg)).setCell ⟨w.heap.size,1,none⟩ (.string q.num)).setCell ⟨w.heap.size,2,none⟩ (.string q.den)) w.heap.size 48 (.bool q.neg) (.string q.num) (.string q.den)/\
  Below w.heap.size w (((w1.setCell ⟨w.heap.size,0,none⟩ (.bool q.neg)).setCell ⟨w.heap.size,1,none⟩ (.string q.num)).setCell ⟨w.heap.size,2,none⟩ (.string q.den)):=
 ⟨(Blk3.stored h.1 _ _ _).2.2.2,((h.2.setCell (Nat.le_refl _) _).setCell (Nat.le_refl _) _).setCell (Nat.le_refl _) _⟩
attribute [local go_sem ↓] Go.wp_at_zero Go.wp_at_succ
end Go.Proofs.YtclkgcigacbmiaaGreatDoor
section
/- Refunds, rates and what is kept, over rational numbers: plain. -/
namespace Go.Proofs.YtclkgcigacbmiaaGreatDoor
def NonNeg (l:List Rat):Prop:=∀x∈l,0<=x
theorem NonNeg.get {l:List Rat} (h:NonNeg l) (k:Nat):0<=l.getD k 0:=by
 rcases Nat.lt_or_ge k l.length with h1|h1
 ·simp only [List.getD,List.getElem?_eq_getElem h1,Option.getD_some];exact h _ (List.getElem_mem h1)
 simp [List.getD,List.getElem?_eq_none h1]
end Go.Proofs.YtclkgcigacbmiaaGreatDoor
end
section
/- Refunds grow with the rates; amounts of the laws: plain. -/
namespace Go.Proofs.YtclkgcigacbmiaaGreatDoor
def dH (x:Nat):Rat:=if x%5=0 then mkRat ((x/5%23:Nat):Int) (1+x/115%6) else if x%5=1 then (((10*(x/5%4):Nat):Int):Rat) else (((x/5%13:Nat):Int):Rat)
end Go.Proofs.YtclkgcigacbmiaaGreatDoor
end
namespace Go.Proofs.YtclkgcigacbmiaaGreatDoor
open Go.RowKit Go.Proofs.Tryz
attribute [local go_sem ↓] Go.wp_at_zero Go.wp_at_succ
theorem rE (q:Rat):pW (enc q)=enc (-q):=tH q
theorem rF (q:Rat):mO (enc q)=g9 q:=ry q
theorem bH:ae 1={data:= #[1]}:=by
 unfold ae;rw [bU (by decide)];simp [aU]
theorem nM {s t:ByteArray} (h:s≠t):(s.toList==t.toList)=false:=by
 rw [beq_eq_false_iff_ne];intro e;rw [ByteArray.toList_eq,ByteArray.toList_eq] at e;exact h (ByteArray.ext (Array.ext' e))
theorem gy {s:ByteArray} (h:s≠{data:= #[1]}):(s.toList==[1])=false:=by
 rw [beq_eq_false_iff_ne];intro e;rw [ByteArray.toList_eq] at e;exact h (ByteArray.ext (Array.ext' e))
theorem rG {r:GRat} (c1:ae (ac r.num)≠r.num):bL r=false:=by simp [bL,c1]
theorem rH {r:GRat} (c2:ae (ac r.den)≠r.den):bL r=false:=by simp [bL,c2]
theorem rI {r:GRat} (c1:ae (ac r.num)=r.num) (c2:ae (ac r.den)=r.den) (h:r.num.size=0):bL r=(!r.neg&&decide (r.den.size=0)):=by simp [bL,c1,c2,h]
theorem rJ {r:GRat} (c1:ae (ac r.num)=r.num) (c2:ae (ac r.den)=r.den) (h:¬r.num.size=0):bL r=(decide (r.den.size=0)||(decide (ac r.den≠1)&&decide (Nat.gcd (ac r.num) (ac r.den)=1))):=by simp [bL,c1,c2,h]
theorem rK (r:GRat) (w:World) (h1:r.num.size<=500000000000) (c1:ae (ac r.num)≠r.num):
  Calls prog 215 #[az r] w fun e w'=>e= .returned (.bool false)/\Below w.heap.size w w':=by
 have N1:=hid (fun w=>aH r.num w (by unfold maxLen;omega));obtain ⟨neg,num,den⟩:=r;simp only at *
 generalize ae (ac num)=s at *
 have e1:=nM c1;unfold az;simp only;clear c1;go_enter func215,ntmps215
 go_wp2
 go_quiet ((go_at_call 265;exact Calls.quiet_of_same ((N1.out _).mono fun e w' h=>⟨h.1,h.2.symm⟩)))
 go_wp2
 go_ret
 exact ⟨rfl,Below.drewN ((Below.refl _ _).alloc (Nat.le_refl _) _) _⟩
theorem rL (r:GRat) (w:World) (h1:r.num.size<=500000000000) (h2:r.den.size<=500000000000) (c1:ae (ac r.num)=r.num) (c2:ae (ac r.den)≠r.den):
  Calls prog 215 #[az r] w fun e w'=>e= .returned (.bool false)/\Below w.heap.size w w':=by
 have N1:=hid (fun w=>aH r.num w (by unfold maxLen;omega));have N2:=hid (fun w=>aH r.den w (by unfold maxLen;omega));rw [c1] at N1;obtain ⟨neg,num,den⟩:=r;simp only at *
 generalize ae (ac den)=s at *
 have e1:=nM c2;unfold az;simp only;clear c1 c2;go_enter func215,ntmps215
 go_wp2
 go_quiet ((first
  |(go_at_call_of 265 (Value.string num);exact Calls.quiet_of_same ((N1.out _).mono fun e w' h=>⟨h.1,h.2.symm⟩))
  |(go_at_call_of 265 (Value.string den);exact Calls.quiet_of_same ((N2.out _).mono fun e w' h=>⟨h.1,h.2.symm⟩))))
 go_wp2
 go_ret
 exact ⟨rfl,Below.drewN ((Below.refl _ _).alloc (Nat.le_refl _) _) _⟩
theorem rM (r:GRat) (w:World) (h1:r.num.size<=500000000000) (h2:r.den.size<=500000000000) (c1:ae (ac r.num)=r.num) (c2:ae (ac r.den)=r.den) (h:r.num.size=0):
  Calls prog 215 #[az r] w fun e w'=>e= .returned (.bool (!r.neg&&decide (r.den.size=0)))/\Below w.heap.size w w':=by
 have N1:=hid (fun w=>aH r.num w (by unfold maxLen;omega));have N2:=hid (fun w=>aH r.den w (by unfold maxLen;omega));rw [c1] at N1;rw [c2] at N2;obtain ⟨neg,num,den⟩:=r;simp only at *
 have hz:num={data:= #[]}:=ByteArray.ext (Array.eq_empty_of_size_eq_zero h);subst hz;unfold az;simp only;clear c1 c2 h h1;cases neg
 ·by_cases hd:den.size=0
  ·have hz:den={data:= #[]}:=ByteArray.ext (Array.eq_empty_of_size_eq_zero hd);subst hz;clear hd h2;go_enter func215,ntmps215
   go_wp2
   go_quiet ((go_at_call 265;exact Calls.quiet_of_same ((N1.out _).mono fun e w' h=>⟨h.1,h.2.symm⟩)))
   go_wp2
   go_ret
   exact ⟨rfl,Below.drewN ((Below.refl _ _).alloc (Nat.le_refl _) _) _⟩
  have hne:=fV hd;have HR:=hid (show (!false&&decide (den.size=0))=false by simp [hd]);rw [HR.out];clear hd h2;go_enter func215,ntmps215
  go_wp2
  go_quiet ((first
   |(go_at_call_of 265 (Value.string {data:= #[]});exact Calls.quiet_of_same ((N1.out _).mono fun e w' h=>⟨h.1,h.2.symm⟩))
   |(go_at_call_of 265 (Value.string den);exact Calls.quiet_of_same ((N2.out _).mono fun e w' h=>⟨h.1,h.2.symm⟩))))
  go_wp2
  go_ret
  exact ⟨rfl,Below.drewN ((Below.refl _ _).alloc (Nat.le_refl _) _) _⟩
 have HR:=hid (show (!true&&decide (den.size=0))=false by simp);rw [HR.out];clear h2;go_enter func215,ntmps215
 go_wp2
 go_quiet ((first
  |(go_at_call_of 265 (Value.string {data:= #[]});exact Calls.quiet_of_same ((N1.out _).mono fun e w' h=>⟨h.1,h.2.symm⟩))
  |(go_at_call_of 265 (Value.string den);exact Calls.quiet_of_same ((N2.out _).mono fun e w' h=>⟨h.1,h.2.symm⟩))))
 go_wp2
 go_ret
 exact ⟨rfl,Below.drewN ((Below.refl _ _).alloc (Nat.le_refl _) _) _⟩
theorem ej {n:Nat} (h:n≠1):ae n≠{data:= #[1]}:=by
 intro e;rw [←bH] at e;exact h (fT e)
theorem rN (r:GRat) (w:World) (h1:r.num.size<=500000000000) (h2:r.den.size<=500000000000) (c1:ae (ac r.num)=r.num) (c2:ae (ac r.den)=r.den) (h:¬r.num.size=0):
  Calls prog 215 #[az r] w fun e w'=>e= .returned (.bool (decide (r.den.size=0)||(decide (ac r.den≠1)&&decide (Nat.gcd (ac r.num) (ac r.den)=1))))/\Below w.heap.size w w':=by
 have N1:=hid (fun w=>aH r.num w (by unfold maxLen;omega));have N2:=hid (fun w=>aH r.den w (by unfold maxLen;omega));rw [c1] at N1;rw [c2] at N2;have G:=hid (fun w=>ll r.num r.den w h1 h2);obtain ⟨neg,num,den⟩:=r;simp only at *
 have hne:=fV h;unfold az;simp only;by_cases hd:den.size=0
 ·have hz:den={data:= #[]}:=ByteArray.ext (Array.eq_empty_of_size_eq_zero hd);subst hz;clear hd h2 c1 c2 h h1 G;go_enter func215,ntmps215
  go_wp2
  go_quiet ((first
   |(go_at_call_of 265 (Value.string num);exact Calls.quiet_of_same ((N1.out _).mono fun e w' h=>⟨h.1,h.2.symm⟩))
   |(go_at_call_of 265 (Value.string {data:= #[]});exact Calls.quiet_of_same ((N2.out _).mono fun e w' h=>⟨h.1,h.2.symm⟩))))
  go_wp2
  go_ret
  exact ⟨rfl,Below.drewN ((Below.refl _ _).alloc (Nat.le_refl _) _) _⟩
 have hne2:=fV hd;by_cases ho:ac den=1
 ·rw [ho,bH] at c2;subst c2;have HR:=hid (show (decide (({data:= #[1]}:ByteArray).size=0)||(decide (ac {data:= #[1]}≠1)&&decide (Nat.gcd (ac num) (ac {data:= #[1]})=1)))=false by rw [ho];simp only [ne_eq,not_true,decide_false,Bool.false_and,Bool.or_false];exact decide_eq_false hd);rw [HR.out];clear hd h2 c1 h h1 G ho hne2;go_enter func215,ntmps215
  go_wp2
  go_quiet ((first
   |(go_at_call_of 265 (Value.string num);exact Calls.quiet_of_same ((N1.out _).mono fun e w' h=>⟨h.1,h.2.symm⟩))
   |(go_at_call_of 265 (Value.string {data:= #[1]});exact Calls.quiet_of_same ((N2.out _).mono fun e w' h=>⟨h.1,h.2.symm⟩))))
  go_wp2
  go_ret
  exact ⟨rfl,Below.drewN ((Below.refl _ _).alloc (Nat.le_refl _) _) _⟩
 have hn1:=gy (s:=den) (fun e=>ho (by rw [e,←bH];exact ai 1));by_cases hg:Nat.gcd (ac num) (ac den)=1
 ·rw [hg,bH] at G;have HR:=hid (show (decide (den.size=0)||(decide (ac den≠1)&&decide (Nat.gcd (ac num) (ac den)=1)))=true by simp [ho,hg]);rw [HR.out];clear hd h2 c1 c2 h h1 ho hg;go_enter func215,ntmps215
  go_wp2
  go_quiet ((first
   |(go_at_call_of 265 (Value.string num);exact Calls.quiet_of_same ((N1.out _).mono fun e w' h=>⟨h.1,h.2.symm⟩))
   |(go_at_call_of 265 (Value.string den);exact Calls.quiet_of_same ((N2.out _).mono fun e w' h=>⟨h.1,h.2.symm⟩))))
  go_wp2_with fail
  refine Calls.mono (G.out _) ?_;rintro e w1 ⟨rfl,hb1⟩;go_wp2
  go_ret
  exact ⟨rfl,Below.step (Below.drewN ((Below.refl _ _).alloc (Nat.le_refl _) _) _) hb1⟩
 have hn3:=gy (ej hg);have HR:=hid (show (decide (den.size=0)||(decide (ac den≠1)&&decide (Nat.gcd (ac num) (ac den)=1)))=false by simp [hd,hg]);rw [HR.out];generalize ae (Nat.gcd (ac num) (ac den))=gs at *
 clear hd h2 c1 c2 h h1 ho hg HR;go_enter func215,ntmps215
 go_wp2
 go_quiet ((first
  |(go_at_call_of 265 (Value.string num);exact Calls.quiet_of_same ((N1.out _).mono fun e w' h=>⟨h.1,h.2.symm⟩))
  |(go_at_call_of 265 (Value.string den);exact Calls.quiet_of_same ((N2.out _).mono fun e w' h=>⟨h.1,h.2.symm⟩))))
 go_wp2_with fail
 refine Calls.mono (G.out _) ?_;rintro e w1 ⟨rfl,hb1⟩;go_wp2
 go_ret
 exact ⟨rfl,Below.step (Below.drewN ((Below.refl _ _).alloc (Nat.le_refl _) _) _) hb1⟩
theorem nN (r:GRat) (w:World) (h1:r.num.size<=500000000000) (h2:r.den.size<=500000000000):
  Calls prog 215 #[az r] w fun e w'=>e= .returned (.bool (bL r))/\Below w.heap.size w w':=by
 by_cases c1:ae (ac r.num)=r.num
 ·by_cases c2:ae (ac r.den)=r.den
  ·by_cases h:r.num.size=0
   ·rw [rI c1 c2 h];exact rM r w h1 h2 c1 c2 h
   rw [rJ c1 c2 h];exact rN r w h1 h2 c1 c2 h
  rw [rH c2];exact rL r w h1 h2 c1 c2
 rw [rG c1];exact rK r w h1 c1
theorem bI (r:GRat) (w:World) (h1:r.num.size<=500000000000) (h2:r.den.size<=500000000000):
  Calls prog 168 #[az r] w fun e w'=>e= .returned (az (enc (qOf r)))/\Below w.heap.size w w':=by
 have V:=hid (fun w=>nN r w h1 h2);have hx0:=hid (Bx2.new w r gZ);clear h1 h2;by_cases h:bL r=true
 ·rw [rn h];rw [h] at V;unfold az;clear h;go_enter func168,ntmps168
  go_wp2_with fail
  refine Calls.mono (V.out _) ?_;rintro e w1 ⟨rfl,hb1⟩;have hx1:=hx0.out.next hb1;obtain ⟨x0,x1,x2,x3,x4⟩:=hx1.1.facts;obtain ⟨t0,t1,t2,t3,t4⟩:=hx1.2.1.facts;go_wp2
  refine aR (hx1.ret _).1 (fun W' c0 c1 c2=>by simp [results,Tryz.results168,go_sem,c0,c1,c2]) rfl ⟨rfl,(hx1.ret _).2⟩
 have h':bL r=false:=by simpa using h
 rw [oW h',←nL];rw [h'] at V;unfold az;clear h h';go_enter func168,ntmps168
 go_wp2_with fail
 refine Calls.mono (V.out _) ?_;rintro e w1 ⟨rfl,hb1⟩;have hx1:=hx0.out.next hb1;obtain ⟨t0,t1,t2,t3,t4⟩:=hx1.2.1.facts;go_wp2
 refine aR (hx1.ret gZ).1 (fun W' c0 c1 c2=>by simp [results,Tryz.results168,go_sem,c0,c1,c2]) rfl ⟨rfl,(hx1.ret gZ).2⟩
end Go.Proofs.YtclkgcigacbmiaaGreatDoor
