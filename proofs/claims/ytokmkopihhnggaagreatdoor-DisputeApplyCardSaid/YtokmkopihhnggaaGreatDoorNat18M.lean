/- natural: Divide, GCD: walked. -/
import Derived.Test.YtokmkopihhnggaaGreatDoorRef8M
import Derived.Test.YtokmkopihhnggaaGreatDoorRef1M
import Derived.Test.YtokmkopihhnggaaGreatDoorRef10M
import Derived.Deep.DeepCutAuto
import Derived.Handy
import Derived.Deep.DrawnRows
import Derived.Deep.QuietTactic
import Derived.BigQuiet
import Derived.Test.YtokmkopihhnggaaGreatDoorRef4M
set_option linter.unusedVariables false
set_option linter.unusedSimpArgs false
namespace Go.Proofs.YtokmkopihhnggaaGreatDoor
open Go.RowKit
theorem limbsOf_mono {a b : Nat} (h : a ≤ b) : (limbsOf a).length ≤ (limbsOf b).length := by
 apply limbsOf_len_le
 have := limbsVal_lt (limbsOf_lt b)
 rw [limbsVal_limbsOf] at this
 omega
theorem divide_any (S : Nat → Prop) (u v : Value) (x y : Nat) (w : World) (hS : ∀ b, S b → b < w.heap.size) (hl : (limbsOf x).length ≤ 999999999999) (hy : 0 < y) (hu : rSlice 1 rU32 w S [u] (limbsOf x)) (hv : rSlice 1 rU32 w S [v] (limbsOf y)) :
  Calls Tryz.prog 174 #[u, v] w fun e w' => ∃ q r, e = .returned (.tuple #[q, r]) ∧ rSlice 1 rU32 w' (LT w'.heap.size) [q] (limbsOf (x / y)) ∧ rSlice 1 rU32 w' (LT w'.heap.size) [r] (limbsOf (x % y)) ∧ Below w.heap.size w w' := by
 have := limbsOf_len_pos hy
 by_cases h1 : x < y
 ·exact divide_lt S u v x y w hS h1 hu hv
 by_cases h2 : (limbsOf y).length = 1
 ·exact divide_small S u v x y w hS (by omega) (by omega) h2 hu hv
 exact divide_long S u v x y w hS hl (by omega) (by omega) hu hv
set_option maxRecDepth 100000 in
theorem Divide_ok (a b : ByteArray) (w : World) (ha : a.size ≤ 500000000000) (hb : b.size ≤ 500000000000) (h : 0 < strVal b) :
  Calls Tryz.prog 142 #[.string a, .string b] w fun e w' => e = .returned (.tuple #[.string (natStr (strVal a / strVal b)), .string (natStr (strVal a % strVal b)), .bool true]) ∧ Below w.heap.size w w' := by
 have la := strVal_limbs_len a
 have lb := strVal_limbs_len b
 have hbl := limbsOf_len_pos h
 have hne : ¬ ((limbsOf (strVal b)).length : Int) = 0 := by omega
 have lq := limbsOf_mono (Nat.div_le_self (strVal a) (strVal b))
 have lr := limbsOf_mono (Nat.mod_le (strVal a) (strVal b))
 have vq := limbsVal_limbsOf (strVal a / strVal b)
 have vr := limbsVal_limbsOf (strVal a % strVal b)
 have H1 := hid (parse_any b w (by omega))
 have H2 := hid (fun w => parse_any a w (by omega))
 have H3 := hid (fun u v w h1 h2 => divide_any _ u v (strVal a) (strVal b) w (fun _ h => h) (by omega) h h1 h2)
 generalize strVal a / strVal b = q at *
 generalize strVal a % strVal b = r at *
 have HL := hid (show (limbsOf q).length ≤ 1000000000000 ∧ (limbsOf r).length ≤ 1000000000000 ∧ limbsVal (limbsOf q) = q ∧ limbsVal (limbsOf r) = r from ⟨by omega, by omega, vq, vr⟩)
 clear lq lr vq vr h hbl la
 go_enter Tryz.func142, Tryz.ntmps142
 go_wp2_with fail
 refine Calls.mono H1.out ?_
 rintro e w1 ⟨v, rfl, hv, hb1⟩
 have hv' := hid hv
 obtain ⟨va, vc, rfl, v1, v2, v3, v4⟩ := u32s_open hv
 clear hv v4
 generalize hm : (limbsOf (strVal b)).length = m at *
 go_wp2_with fail
 refine Calls.mono (H2.out _) ?_
 rintro e w2 ⟨u, rfl, hu, hb2⟩
 have hv2 := (stays_rSlice stays_rU32).below hv'.out hb2 hb2.size
 have HD := hid (H3.out _ _ _ hu hv2)
 have hbb := hb1.step hb2
 clear hu hv2 hv' hm
 go_wp2_with fail
 refine Calls.mono HD.out ?_
 rintro e w3 ⟨q', r', rfl, hq, hr, hb3⟩
 have HQ := hid (text_any _ _ _ w3 (fun _ h => h) HL.out.1 hq)
 have HR := hid hr
 have HB := hid (hbb.step hb3)
 clear hr hq
 rw [HL.out.2.2.1] at HQ
 go_wp2_with fail
 refine Calls.mono HQ.out ?_
 rintro e w4 ⟨rfl, hb4⟩
 have hr4 := (stays_rSlice stays_rU32).below HR.out hb4 hb4.size
 have HR4 := hid (text_any _ _ _ w4 (fun _ h => h) HL.out.2.1 hr4)
 rw [HL.out.2.2.2] at HR4
 clear hr4
 go_wp2_with fail
 refine Calls.mono HR4.out ?_
 rintro e w5 ⟨rfl, hb5⟩
 go_wp2
 go_ret3
 exact ⟨rfl, HB.out.step (hb4.step hb5)⟩
def slVal (w : World) : Value → Nat
 | .slice (some a) n _ => limbsVal ((List.range n).map fun j => match w.cell? ⟨a.block, a.off + j, none⟩ with | some (.int _ x) => x.toNat | _ => 0)
 | _ => 0
theorem slVal_of {w : World} {S : Nat → Prop} {v : Value} {xs : List Nat} (h : rSlice 1 rU32 w S [v] xs) : slVal w v = limbsVal xs := by
 obtain ⟨a, cap, rfl, h1, h2, h3, h4⟩ := u32s_open h
 rcases h4 with rfl | ⟨b, off, rfl, h4⟩
 ·cases a <;> simp [slVal, limbsVal]
 simp only [slVal]
 congr 1
 apply List.ext_getElem (by simp)
 intro j hj1 hj2
 simp only [List.getElem_map, List.getElem_range]
 rw [(h4.u32 hj2).1]
 simp
set_option maxRecDepth 100000 in
theorem GCD_any (a b : ByteArray) (w : World) (ha : a.size ≤ 500000000000) (hb : b.size ≤ 500000000000) :
  Calls Tryz.prog 141 #[.string a, .string b] w fun e w' => e = .returned (.string (natStr (Nat.gcd (strVal a) (strVal b)))) ∧ Below w.heap.size w w' := by
 have la := strVal_limbs_len a
 have lb := strVal_limbs_len b
 have H1 := hid (parse_any a w (by omega))
 have H2 := hid (fun w => parse_any b w (by omega))
 obtain ⟨A, hA⟩ : ∃ A, A = strVal a := ⟨_, rfl⟩
 obtain ⟨B, hB⟩ : ∃ A, A = strVal b := ⟨_, rfl⟩
 rw [← hA] at la H1 ⊢
 rw [← hB] at lb H2 ⊢
 have hla : (limbsOf A).length ≤ 500000000000 := by omega
 have hlb : (limbsOf B).length ≤ 500000000000 := by omega
 clear la lb hA hB
 go_enter Tryz.func141, Tryz.ntmps141
 go_wp2_with fail
 refine Calls.mono H1.out ?_
 rintro e w1 ⟨u, rfl, hu, hb1⟩
 have HU := hid hu
 clear hu
 go_wp2_with fail
 refine Calls.mono (H2.out _) ?_
 rintro e w2 ⟨v, rfl, hv, hb2⟩
 have HU2 := hid ((stays_rSlice stays_rU32).below HU.out hb2 hb2.size)
 have HV2 := hid hv
 have HB := hid (hb1.step hb2)
 clear hv
 have HLa := hid hla
 have HLb := hid hlb
 clear hla hlb
 go_wp2
 go_loopw [5, 6, 7, 8] (fun p q _ _ wr => ∃ (x y : Nat), Hid (rSlice 1 rU32 wr (LT wr.heap.size) [p] (limbsOf x)) ∧ Hid (rSlice 1 rU32 wr (LT wr.heap.size) [q] (limbsOf y)) ∧ Hid (Below w.heap.size w wr) ∧ Hid (Nat.gcd x y = Nat.gcd A B) ∧ Hid ((limbsOf x).length ≤ 500000000000) ∧ Hid ((limbsOf y).length ≤ 500000000000)) (fun _ q _ _ wr => slVal wr q)
 case atStart => exact ⟨A, B, HU2, HV2, HB, rfl, HLa, HLb⟩
 case round =>
  clear HU2 HV2 HB HU H1 H2
  obtain ⟨x, y, HX, HY, HB, HG, HLx, HLy⟩ := hrel
  have hy := HY.out
  have hms := hid (slVal_of hy)
  rw [limbsVal_limbsOf] at hms
  obtain ⟨qa, qc, rfl, q1, q2, q3, q4⟩ := u32s_open hy
  clear q4 hy
  by_cases h0 : 0 < y
  ·have hyl := limbsOf_len_pos h0
   have HD := hid (divide_any _ _ _ x y _ (fun _ h => h) (Nat.le_trans HLx.out (by decide)) h0 HX.out HY.out)
   have HLr := hid (Nat.le_trans (limbsOf_mono (Nat.le_of_lt (Nat.mod_lt x h0))) HLy.out)
   have HGr := hid (show Nat.gcd y (x % y) = Nat.gcd A B by rw [← HG.out, Nat.gcd_comm y, ← Nat.gcd_rec, Nat.gcd_comm])
   have H0 := hid (Nat.mod_lt x h0)
   generalize x % y = z at *
   obtain ⟨n, hn⟩ : ∃ n, n = (limbsOf y).length := ⟨_, rfl⟩
   rw [← hn] at HD HY q1 hms hyl ⊢
   clear HLx HG HX h0 hn
   go_wp2_with fail
   refine Calls.mono HD.out ?_
   rintro e w3 ⟨q', r', rfl, hq, hr, hb3⟩
   have HR := hid hr
   have HB3 := hid (HB.out.step hb3)
   have hms3 := hid (slVal_of hr)
   rw [limbsVal_limbsOf] at hms3
   have HY3 := hid ((stays_rSlice stays_rU32).below HY.out hb3 hb3.size)
   clear hq hr
   go_wp2
   go_roundw
   case rel => exact ⟨y, z, HY3, HR, HB3, HGr, HLy, HLr⟩
   case measure =>
    have e1 := hms.out
    have e2 := hms3.out
    have e3 := H0.out
    rw [e1]
    rw [e2]
    exact e3
  have hy0 : y = 0 := by omega
  subst hy0
  rw [limbsOf_zero] at q1 hms ⊢
  have HT := hid (text_any _ _ _ _ (fun _ h => h) (Nat.le_trans HLx.out (by decide)) HX.out)
  have hg := HG.out
  rw [Nat.gcd_zero_right] at hg
  rw [limbsVal_limbsOf, hg] at HT
  go_wp2_with fail
  refine Calls.mono HT.out ?_
  rintro e w4 ⟨rfl, hb4⟩
  go_wp2
  go_ret
  exact ⟨rfl, HB.out.step hb4⟩
def RDiv : Prop := ∀ (S : Nat → Prop) (u v : Value) (x y : Nat) (w : World), (∀ b, S b → b < w.heap.size) → (limbsOf x).length ≤ 999999999999 → 0 < y → rSlice 1 rU32 w S [u] (limbsOf x) → rSlice 1 rU32 w S [v] (limbsOf y) →
  Calls Tryz.prog 218 #[u, v] w fun e w' => ∃ q r, e = .returned (.tuple #[q, r]) ∧ rSlice 1 rU32 w' (LT w'.heap.size) [q] (limbsOf (x / y)) ∧ rSlice 1 rU32 w' (LT w'.heap.size) [r] (limbsOf (x % y)) ∧ Below w.heap.size w w'
set_option maxRecDepth 100000 in
theorem common_any (hdiv : RDiv) (u v : Value) (A B : Nat) (w : World) (hla : (limbsOf A).length ≤ 999999999999) (hlb : (limbsOf B).length ≤ 999999999999) (hu : rSlice 1 rU32 w (LT w.heap.size) [u] (limbsOf A)) (hv : rSlice 1 rU32 w (LT w.heap.size) [v] (limbsOf B)) :
  Calls Tryz.prog 217 #[u, v] w fun e w' => ∃ r, e = .returned r ∧ rSlice 1 rU32 w' (LT w'.heap.size) [r] (limbsOf (Nat.gcd A B)) ∧ Below w.heap.size w w' := by
 have HU2 := hid hu
 have HV2 := hid hv
 have HB := hid (Below.refl w.heap.size w)
 have HLa := hid hla
 have HLb := hid hlb
 have HDIV := hid hdiv
 clear hla hlb hu hv hdiv
 go_enter Tryz.func217, Tryz.ntmps217
 go_wp2
 go_loopw [0, 1, 5, 6] (fun p q _ _ wr => ∃ (x y : Nat), Hid (rSlice 1 rU32 wr (LT wr.heap.size) [p] (limbsOf x)) ∧ Hid (rSlice 1 rU32 wr (LT wr.heap.size) [q] (limbsOf y)) ∧ Hid (Below w.heap.size w wr) ∧ Hid (Nat.gcd x y = Nat.gcd A B) ∧ Hid ((limbsOf x).length ≤ 999999999999) ∧ Hid ((limbsOf y).length ≤ 999999999999)) (fun _ q _ _ wr => slVal wr q)
 case atStart => exact ⟨A, B, HU2, HV2, HB, rfl, HLa, HLb⟩
 case round =>
  clear HU2 HV2 HB
  obtain ⟨x, y, HX, HY, HB, HG, HLx, HLy⟩ := hrel
  have hy := HY.out
  have hms := hid (slVal_of hy)
  rw [limbsVal_limbsOf] at hms
  obtain ⟨qa, qc, rfl, q1, q2, q3, q4⟩ := u32s_open hy
  clear q4 hy
  by_cases h0 : 0 < y
  ·have hyl := limbsOf_len_pos h0
   have HD := hid (HDIV.out _ _ _ x y _ (fun _ h => h) HLx.out h0 HX.out HY.out)
   have HLr := hid (Nat.le_trans (limbsOf_mono (Nat.le_of_lt (Nat.mod_lt x h0))) HLy.out)
   have HGr := hid (show Nat.gcd y (x % y) = Nat.gcd A B by rw [← HG.out, Nat.gcd_comm y, ← Nat.gcd_rec, Nat.gcd_comm])
   have H0 := hid (Nat.mod_lt x h0)
   generalize x % y = z at *
   obtain ⟨n, hn⟩ : ∃ n, n = (limbsOf y).length := ⟨_, rfl⟩
   rw [← hn] at HD HY q1 hms hyl ⊢
   clear HLx HG HX h0 hn
   go_wp2_with fail
   refine Calls.mono HD.out ?_
   rintro e w3 ⟨q', r', rfl, hq, hr, hb3⟩
   have HR := hid hr
   have HB3 := hid (HB.out.step hb3)
   have hms3 := hid (slVal_of hr)
   rw [limbsVal_limbsOf] at hms3
   have HY3 := hid ((stays_rSlice stays_rU32).below HY.out hb3 hb3.size)
   clear hq hr
   go_wp2
   go_roundw
   case rel => exact ⟨y, z, HY3, HR, HB3, HGr, HLy, HLr⟩
   case measure =>
    have e1 := hms.out
    have e2 := hms3.out
    have e3 := H0.out
    rw [e1]
    rw [e2]
    exact e3
  have hy0 : y = 0 := by omega
  subst hy0
  rw [limbsOf_zero] at q1 hms ⊢
  have hg := HG.out
  rw [Nat.gcd_zero_right] at hg
  rw [hg] at HX
  go_wp2
  go_ret
  exact ⟨_, rfl, HX.out, HB.out⟩
theorem rdivide_long (S : Nat → Prop) (u v : Value) (x y : Nat) (w : World) (hS : ∀ b, S b → b < w.heap.size) (hl : (limbsOf x).length ≤ 999999999999) (hxy : y ≤ x) (hy2 : 2 ≤ (limbsOf y).length) (hu : rSlice 1 rU32 w S [u] (limbsOf x)) (hv : rSlice 1 rU32 w S [v] (limbsOf y)) :
  Calls Tryz.prog 218 #[u, v] w fun e w' => ∃ q r, e = .returned (.tuple #[q, r]) ∧ rSlice 1 rU32 w' (LT w'.heap.size) [q] (limbsOf (x / y)) ∧ rSlice 1 rU32 w' (LT w'.heap.size) [r] (limbsOf (x % y)) ∧ Below w.heap.size w w' := by
 have hc := order_any S u v x y w hS hu hv
 have hcn : ¬ natCmp x y < 0 := by unfold natCmp; rw [if_neg (by omega)]; split <;> omega
 have HC := hid hc
 clear hc
 have HL := hid (fun (w1 : World) (hb : Below w.heap.size w w1) => long_any0 (LT w1.heap.size) u v x y w1 (fun _ h => h) hl hxy hy2
  ((stays_rSlice stays_rU32) _ _ _ _ _ _ hu (fun b h => hb.block b (hS b h)) fun b h => Nat.lt_of_lt_of_le (hS b h) hb.size)
  ((stays_rSlice stays_rU32) _ _ _ _ _ _ hv (fun b h => hb.block b (hS b h)) fun b h => Nat.lt_of_lt_of_le (hS b h) hb.size))
 obtain ⟨va, vc, rfl, v1, v2, v3, v4⟩ := u32s_open hv
 obtain ⟨n, hn⟩ : ∃ n, n = (limbsOf y).length := ⟨_, rfl⟩
 rw [← hn] at hy2 HC HL ⊢
 have hne1 : ¬ ((n : Int) = 1) := by omega
 clear hv v4 hn v1 hu
 go_enter Tryz.func218, Tryz.ntmps218
 go_wp2_with fail
 refine Calls.mono HC.out ?_
 rintro e w1 ⟨rfl, hb1⟩
 go_wp2_with fail
 refine Calls.mono (HL.out _ hb1) ?_
 rintro e w2 ⟨q, r, rfl, hq, hr, hb2⟩
 go_wp2
 go_ret2
 exact ⟨_, _, rfl, hq, hr, hb1.step hb2⟩
theorem rdivide_any : RDiv := by
 intro S u v x y w hS hl hy hu hv
 have := limbsOf_len_pos hy
 by_cases h1 : x < y
 ·exact rdivide_lt S u v x y w hS h1 hu hv
 by_cases h2 : (limbsOf y).length = 1
 ·exact rdivide_small S u v x y w hS (by omega) (by omega) h2 hu hv
 exact rdivide_long S u v x y w hS hl (by omega) (by omega) hu hv
def RNat (w : World) (v : Value) (n : Nat) : Prop := rSlice 1 rU32 w (LT w.heap.size) [v] (limbsOf n)
theorem RNat.below {w w' : World} {v : Value} {n : Nat} (h : RNat w v n) (hb : Below w.heap.size w w') : RNat w' v n := (stays_rSlice stays_rU32).below h hb hb.size
theorem RNat.alloc {w : World} {v : Value} {n : Nat} (h : RNat w v n) (o : Obj) : RNat (w.alloc o) v n := h.below ((Below.refl _ _).alloc (Nat.le_refl _) _)
def NB (k n : Nat) : Prop := n < 256 ^ k
theorem NB.limbs {k n : Nat} (h : NB k n) : (limbsOf n).length ≤ k := Nat.le_trans (limbs_blen _) (natBytes_len_le h)
theorem NB.mono {j k n : Nat} (h : NB j n) (hk : j ≤ k) : NB k n := Nat.lt_of_lt_of_le h (Nat.pow_le_pow_right (by decide) hk)
theorem NB.le {k m n : Nat} (h : NB k n) (hm : m ≤ n) : NB k m := Nat.lt_of_le_of_lt hm h
theorem NB.mul {j k m n : Nat} (h : NB j m) (h' : NB k n) : NB (j + k) (m * n) := pow_mul_lt h h'
theorem NB.add {j m n : Nat} (h : NB j m) (h' : NB j n) : NB (j + 1) (m + n) := by
 unfold NB at *
 rw [Nat.pow_succ]; omega
theorem NB.str {k : Nat} {s : ByteArray} (h : s.size ≤ k) : NB k (strVal s) := Nat.lt_of_lt_of_le (strVal_lt s) (Nat.pow_le_pow_right (by decide) h)
theorem cText {u : Value} {x k : Nat} {w : World} (hx : NB k x) (hk : k ≤ 1000000000000) (hu : RNat w u x) :
  Calls Tryz.prog 151 #[u] w fun e w' => e = .returned (.string (natStr x)) ∧ Below w.heap.size w w' := by
 have := rtext_any _ u (limbsOf x) w (fun _ h => h) (Nat.le_trans hx.limbs hk) hu
 rwa [limbsVal_limbsOf] at this
theorem cDivide {u v : Value} {x y k : Nat} {w : World} (hx : NB k x) (hk : k ≤ 900000000000) (hy : 0 < y) (hu : RNat w u x) (hv : RNat w v y) :
  Calls Tryz.prog 218 #[u, v] w fun e w' => ∃ q r, e = .returned (.tuple #[q, r]) ∧ RNat w' q (x / y) ∧ RNat w' r (x % y) ∧ Below w.heap.size w w' :=
 rdivide_any _ u v x y w (fun _ h => h) (Nat.le_trans hx.limbs (by omega)) hy hu hv
theorem cCommon {u v : Value} {x y k : Nat} {w : World} (hx : NB k x) (hy : NB k y) (hk : k ≤ 900000000000) (hu : RNat w u x) (hv : RNat w v y) :
  Calls Tryz.prog 217 #[u, v] w fun e w' => ∃ r, e = .returned r ∧ RNat w' r (Nat.gcd x y) ∧ Below w.heap.size w w' :=
 common_any rdivide_any u v x y w (Nat.le_trans hx.limbs (by omega)) (Nat.le_trans hy.limbs (by omega)) hu hv
theorem cLimbs (s : ByteArray) (w : World) (hs : s.size ≤ 1000000000000) :
  Calls Tryz.prog 175 #[.string s] w fun e w' => ∃ u, e = .returned u ∧ RNat w' u (strVal s) ∧ Below w.heap.size w w' := limbs_any s w hs
theorem rGCD_any (a b : ByteArray) (w : World) (ha : a.size ≤ 500000000000) (hb : b.size ≤ 500000000000) :
  Calls Tryz.prog 193 #[.string a, .string b] w fun e w' => e = .returned (.string (natStr (Nat.gcd (strVal a) (strVal b)))) ∧ Below w.heap.size w w' := by
 have H1 := hid (fun w => cLimbs a w (by omega))
 have H2 := hid (fun w => cLimbs b w (by omega))
 have HA := hid (NB.str ha)
 have HB := hid (NB.str hb)
 have HG := hid (show NB 500000000000 (Nat.gcd (strVal a) (strVal b)) by
  rcases Nat.eq_zero_or_pos (strVal a) with h | h
  ·rw [h, Nat.gcd_zero_left]; exact HB.out
  exact HA.out.le (Nat.gcd_le_left _ h))
 generalize strVal a = x at *
 generalize strVal b = y at *
 go_enter Tryz.func193, Tryz.ntmps193
 go_wp2_with fail
 refine Calls.mono (H1.out _) ?_
 rintro e w1 ⟨u, rfl, hu, hb1⟩
 go_wp2_with fail
 refine Calls.mono (H2.out _) ?_
 rintro e w2 ⟨v, rfl, hv, hb2⟩
 go_wp2_with fail
 refine Calls.mono (cCommon HA.out HB.out (by decide) (hu.below hb2) hv) ?_
 rintro e w3 ⟨r, rfl, hr, hb3⟩
 go_wp2_with fail
 refine Calls.mono (cText HG.out (by decide) hr) ?_
 rintro e w4 ⟨rfl, hb4⟩
 go_wp2
 go_ret
 exact ⟨rfl, hb1.step (hb2.step (hb3.step hb4))⟩
theorem RNat.kind {w : World} {u : Value} {n : Nat} (h : RNat w u n) (h0 : 0 < n) :
  ∃ b off m c x, u = .slice (some ⟨b, off, none⟩) m c ∧ b < w.heap.size ∧ w.cell? ⟨b, off, none⟩ = some (.int .u32 (x : Nat)) ∧ m ≤ 9223372036854775807 ∧ ((m = 1 ∧ x = n) ∨ (1 < m ∧ 1 < n)) := by
 obtain ⟨a, c, rfl, h1, h2, h3, h4⟩ := u32s_open h
 have hl := limbsOf_len_pos h0
 rcases h4 with h4 | ⟨b, off, rfl, h4⟩
 ·rw [h4] at hl; simp at hl
 refine ⟨b, off, _, c, _, rfl, h4.1, (h4.u32 hl).1, by unfold maxLen at h2; omega, ?_⟩
 by_cases hm : (limbsOf n).length = 1
 ·exact .inl ⟨hm, by have := (limbsOf_one hm).1; simp only [this, List.getElem_cons_zero]⟩
 refine .inr ⟨by omega, ?_⟩
 rcases Nat.lt_or_ge 1 n with h5 | h5
 ·exact h5
 exfalso
 have : n = 1 := by omega
 subst this
 rw [limbsOf_1] at hm
 simp at hm
theorem RNat.zero {w : World} {u : Value} (h : RNat w u 0) : ∃ a c, u = .slice a 0 c := by
 obtain ⟨a, c, rfl, _⟩ := u32s_open h
 rw [limbsOf_zero]
 exact ⟨a, c, rfl⟩
def Blk3 (w : World) (b : Nat) (T : Nat) (x y z : Value) : Prop := w.heap[b]? = some (.cells #[x, y, z] T (0, 0))
theorem Blk3.new (w : World) (T : Nat) (x y z : Value) : Blk3 (w.alloc (.cells #[x, y, z] T)) w.heap.size T x y z := heap_alloc_new w _
theorem Blk3.below {w w' : World} {b T B : Nat} {x y z : Value} (h : Blk3 w b T x y z) (hb : Below B w w') (hB : b < B) : Blk3 w' b T x y z := by
 unfold Blk3 at *; rw [hb.block b hB]; exact h
theorem Blk3.lt {w : World} {b T : Nat} {x y z : Value} (h : Blk3 w b T x y z) : b < w.heap.size := (Array.getElem?_eq_some_iff.1 h).1
theorem Blk3.alloc {w : World} {b T : Nat} {x y z : Value} (h : Blk3 w b T x y z) (o : Obj) : Blk3 (w.alloc o) b T x y z := by
 unfold Blk3 at *; rw [Below.heap_alloc _ _ _ (Blk3.lt h)]; exact h
theorem Blk3.cells {w : World} {b T : Nat} {x y z : Value} (h : Blk3 w b T x y z) :
  w.cell? ⟨b, 0, none⟩ = some x ∧ w.cell? ⟨b, 1, none⟩ = some y ∧ w.cell? ⟨b, 2, none⟩ = some z ∧ (∀ j, w.frozen? ⟨b, j, none⟩ = false) := by
 unfold Blk3 at h
 simp [World.cell?, World.frozen?, h]
theorem Blk3.set0 {w : World} {b T : Nat} {x y z : Value} (h : Blk3 w b T x y z) (v : Value) : Blk3 (w.setCell ⟨b, 0, none⟩ v) b T v y z := by
 unfold Blk3 at *; rw [heap_setCell_same w b 0 _ T v h]; rfl
theorem Blk3.set1 {w : World} {b T : Nat} {x y z : Value} (h : Blk3 w b T x y z) (v : Value) : Blk3 (w.setCell ⟨b, 1, none⟩ v) b T x v z := by
 unfold Blk3 at *; rw [heap_setCell_same w b 1 _ T v h]; rfl
theorem Blk3.set2 {w : World} {b T : Nat} {x y z : Value} (h : Blk3 w b T x y z) (v : Value) : Blk3 (w.setCell ⟨b, 2, none⟩ v) b T x y v := by
 unfold Blk3 at *; rw [heap_setCell_same w b 2 _ T v h]; rfl
theorem Blk3.other {w : World} {b b' T : Nat} {x y z : Value} (h : Blk3 w b T x y z) (hne : b' ≠ b) (p : Nat) (v : Value) : Blk3 (w.setCell ⟨b', p, none⟩ v) b T x y z := by
 unfold Blk3 at *; rw [Below.heap_setCell _ _ _ _ (fun e => hne e.symm)]; exact h
theorem Blk3.stored {X : World} {b T : Nat} {x y z : Value} (h : Blk3 X b T x y z) (x' y' z' : Value) :
  (X.setCell ⟨b, 0, none⟩ x').cell? ⟨b, 0, none⟩ = some x' ∧ ((X.setCell ⟨b, 0, none⟩ x').setCell ⟨b, 1, none⟩ y').cell? ⟨b, 1, none⟩ = some y' ∧
  (((X.setCell ⟨b, 0, none⟩ x').setCell ⟨b, 1, none⟩ y').setCell ⟨b, 2, none⟩ z').cell? ⟨b, 2, none⟩ = some z' ∧ Blk3 (((X.setCell ⟨b, 0, none⟩ x').setCell ⟨b, 1, none⟩ y').setCell ⟨b, 2, none⟩ z') b T x' y' z' :=
 ⟨(h.set0 x').cells.1, ((h.set0 x').set1 y').cells.2.1, (((h.set0 x').set1 y').set2 z').cells.2.2.1, ((h.set0 x').set1 y').set2 z'⟩
theorem ret_blk3 {P : Program} {fn : Func} {R : Ending → World → Prop} {a : Act} {W : World} {b T : Nat} {x y z : Value} (h : Blk3 W b T x y z)
  (hres : ∀ W', W'.cell? ⟨b, 0, none⟩ = some x → W'.cell? ⟨b, 1, none⟩ = some y → W'.cell? ⟨b, 2, none⟩ = some z → (results fn a.tmps).run P W' = .ok (.agg #[x, y, z]) W') (hd : a.defers = []) (hR : R (.returned (.agg #[x, y, z])) W) : bodyPost P fn R .ret a W :=
 bodyPost_ret (hres W h.cells.1 h.cells.2.1 h.cells.2.2.1) hd hR
theorem rreduced_zero (neg : Bool) (u v : Value) (w : World) (hu : RNat w u 0) :
  Calls Tryz.prog 176 #[.bool neg, u, v] w fun e w' => e = .returned (vRat (enc 0)) ∧ Below w.heap.size w w' := by
 obtain ⟨a, c, rfl⟩ := hu.zero
 rw [enc_zero]
 unfold vRat bEmpty
 clear hu
 go_enter Tryz.func176, Tryz.ntmps176
 go_wp2
 go_returns
 exact ⟨rfl, (Below.refl _ _).alloc (Nat.le_refl _) _⟩
set_option maxRecDepth 100000 in
set_option maxHeartbeats 1000000 in
theorem rreduced_pos (neg : Bool) (u v : Value) (n d k : Nat) (w : World) (hn : NB k n) (hd : NB k d) (hk : k ≤ 900000000000) (hn0 : 0 < n) (hd0 : 0 < d) (hu : RNat w u n) (hv : RNat w v d) :
  Calls Tryz.prog 176 #[.bool neg, u, v] w fun e w' => e = .returned (vRat (enc (mkRat (sg neg n) d))) ∧ Below w.heap.size w w' := by
 have HE := hid (enc_mkRat (neg := neg) (n := n) (d := d) (by omega) (by omega))
 rw [HE.out]
 unfold vRat
 simp only
 clear HE
 obtain ⟨g, hg⟩ : ∃ g, g = Nat.gcd n d := ⟨_, rfl⟩
 have hg0 : 0 < g := by rw [hg]; exact Nat.gcd_pos_of_pos_left _ hn0
 have hgn : g ≤ n := by rw [hg]; exact Nat.gcd_le_left _ hn0
 have hgd : g ≤ d := by rw [hg]; exact Nat.gcd_le_right _ hd0
 have hdg : 0 < d / g := Nat.div_pos hgd hg0
 rw [← hg]
 obtain ⟨ub, uoff, um, uc, ux, hu1, hu2, hu3, hu4, hu5⟩ := hu.kind hn0
 have hum : 0 < um := by omega
 have HU := hid hu
 have HV := hid hv
 subst hu1
 have HC := hid (fun (w' : World) (hb : Below w.heap.size w w') => cCommon hn hd hk (HU.out.below hb) (HV.out.below hb))
 simp only [← hg] at HC
 have HNg := hid (show NB k (n / g) ∧ NB k (d / g) from ⟨hn.le (Nat.div_le_self _ _), hd.le (Nat.div_le_self _ _)⟩)
 have HN := hid hn
 have HD := hid hd
 clear hn hd hn0 hd0 hgn hgd hu hv hu3 hu5 hg
 go_enter Tryz.func176, Tryz.ntmps176
 go_wp2_with fail
 refine Calls.mono (HC.out _ ((Below.refl _ _).alloc (Nat.le_refl _) _)) ?_
 rintro e w1 ⟨r, rfl, hr, hb1⟩
 have hB1 : Blk3 w1 w.heap.size 32 _ _ _ := (Blk3.new w _ _ _ _).below hb1 (by simp)
 have hs1 : w.heap.size + 1 ≤ w1.heap.size := by have := hb1.size; simpa using this
 have HB1 := hid hB1
 obtain ⟨rb, roff, rm, rc, rx, hr1, hr2, hr3, hr4, hr5⟩ := hr.kind hg0
 have HR := hid hr
 subst hr1
 clear hB1 hr HC
 have hbw1 : Below w.heap.size w w1 := ((Below.refl _ _).alloc (Nat.le_refl _) _).step hb1
 go_upto_region 4 with fail
 go_cut [24] (fun s24 wx => s24 = .bool (decide (1 < g)) ∧ w1 = wx)
 case first =>
  rcases hr5 with ⟨rfl, rfl⟩ | ⟨h1, h2⟩
  ·go_wp2
   all_goals
    go_meet
    case rel => exact ⟨congrArg Value.bool (decide_eq_decide.2 (by omega)), rfl⟩
  go_wp2
  go_meet
  case rel => exact ⟨congrArg Value.bool (by simp [h2]), rfl⟩
 case rest =>
 obtain ⟨rfl, rfl⟩ := hcut
 go_upto_if 24 with fail
 go_cut [1, 2, 25, 31] (fun s1 s2 _ _ wx => RNat wx s1 (n / g) ∧ RNat wx s2 (d / g) ∧ Below (w.heap.size + 1) w1 wx)
 case first =>
  by_cases hg1 : 1 < g
  ·have HD1 := hid (cDivide HN.out hk hg0 (HU.out.below hbw1) HR.out)
   have HG1 := hid hg1
   clear hr5
   go_wp2_with fail
   refine Calls.mono HD1.out ?_
   rintro e w2 ⟨q1, r1, rfl, hq1, _, hb2⟩
   have HD2 := hid (cDivide HD.out hk hg0 (HV.out.below (hbw1.step hb2)) (HR.out.below hb2))
   clear HD1
   go_wp2_with fail
   refine Calls.mono HD2.out ?_
   rintro e w3 ⟨q2, r2, rfl, hq2, _, hb3⟩
   go_wp2
   go_meet
   case rel => exact ⟨hq1.below hb3, hq2, (hb2.step hb3).mono hs1⟩
  obtain rfl : g = 1 := by omega
  go_wp2
  go_meet
  case rel => exact ⟨by rw [Nat.div_one]; exact HU.out.below hbw1, by rw [Nat.div_one]; exact HV.out.below hbw1, Below.refl _ _⟩
 case rest =>
  obtain ⟨hq1, hq2, hbc⟩ := hcut
  have HT := hid (cText HNg.out.1 (Nat.le_trans hk (by decide)) hq1)
  obtain ⟨db, doff, dm, dc, dx, hd1, hd2, hd3, hd4, hd5⟩ := hq2.kind hdg
  have hBc := HB1.out.below hbc (Nat.lt_succ_self _)
  have HDQ := hid hq2
  subst hd1
  clear hq1 hq2 hr5 hr3 HU HV HB1 HR
  go_wp2_with fail
  refine Calls.mono HT.out ?_
  rintro e w5 ⟨rfl, hb5⟩
  have hB5 := hid (hBc.below hb5 hBc.lt)
  obtain ⟨z0, z1, z2, z3⟩ := hB5.out.cells
  have hlt5 := hB5.out.lt
  rw [← hb5.cell (p := ⟨db, doff, none⟩) hd2] at hd3
  have hd25 : db < w5.heap.size := Nat.lt_of_lt_of_le hd2 hb5.size
  have hbw5 : Below w.heap.size w w5 := Below.step (hbw1.trans (hbc.mono (Nat.le_succ _))) hb5
  clear hd2
  have HT2 := hid (fun (w' : World) (hb : Below w5.heap.size w5 w') => cText HNg.out.2 (Nat.le_trans hk (by decide)) ((HDQ.out.below hb5).below hb))
  go_upto_region 8 with fail
  go_cut [49] (fun s49 wx => s49 = .bool (decide (1 < d / g)) ∧ (w5.alloc (.cells #[.bool neg, .string (natStr (n / g)), .string { data := #[] }] 32)) = wx)
  case first =>
   rcases hd5 with ⟨rfl, rfl⟩ | ⟨h1, h2⟩
   ·go_wp2
    all_goals
     go_meet
     case rel => exact ⟨congrArg Value.bool (decide_eq_decide.2 (by omega)), rfl⟩
   go_wp2
   go_meet
   case rel => exact ⟨congrArg Value.bool (by simp [h2]), rfl⟩
  case rest =>
  obtain ⟨rfl, rfl⟩ := hcut
  have hba : Below w5.heap.size w5 (w5.alloc (.cells #[.bool neg, .string (natStr (n / g)), .string { data := #[] }] 32)) := (Below.refl _ _).alloc (Nat.le_refl _) _
  clear hd5
  by_cases hg1 : 1 < d / g
  ·have HIF := hid (show (if d / g = 1 then bEmpty else natStr (d / g)) = natStr (d / g) from if_neg (by omega))
   clear z0 z1 z2 z3
   go_wp2_with fail
   refine Calls.mono (HT2.out _ hba) ?_
   rintro e w6 ⟨rfl, hb6⟩
   have hB6 := (hB5.out.alloc (.cells #[.bool neg, .string (natStr (n / g)), .string { data := #[] }] 32)).below hb6 (by simp; omega)
   obtain ⟨z0, z1, z2, z3⟩ := hB6.cells
   have hA6 := (Blk3.new w5 32 (.bool neg) (.string (natStr (n / g))) (.string { data := #[] })).below hb6 (by simp)
   obtain ⟨y0, y1, y2, y3⟩ := hA6.cells
   have hl6 := hA6.lt
   have hne : w.heap.size ≠ w5.heap.size := by omega
   have HX := hid (show w.heap.size ≤ w5.heap.size ∧ Below w.heap.size w w6 from ⟨by omega, (hbw5.step hba).step hb6⟩)
   obtain ⟨s0, s1, s2, s3⟩ := (hB6.other (b' := w5.heap.size) hne.symm 2 (.string (natStr (d / g)))).stored (.bool neg) (.string (natStr (n / g))) (.string (natStr (d / g)))
   have S3 := hid s3
   clear hB6 hA6 hba hbw5 hb6 hB5 s0 s1 s2 s3
   go_wp2
   refine ret_blk3 S3.out (fun W' c0 c1 c2 => by simp [results, Tryz.results176, go_sem, c0, c1, c2]) rfl ?_
   refine ⟨?_, (((HX.out.2.setCell HX.out.1 _).setCell (Nat.le_refl _) _).setCell (Nat.le_refl _) _).setCell (Nat.le_refl _) _⟩
   first | rfl | (rw [HIF.out])
  have HIF := hid (show (if d / g = 1 then bEmpty else natStr (d / g)) = bEmpty from if_pos (by omega))
  obtain ⟨_, _, _, s3⟩ := hB5.out.stored (.bool neg) (.string (natStr (n / g))) (.string { data := #[] })
  have S3 := hid (s3.alloc (.cells #[.bool neg, .string (natStr (n / g)), .string { data := #[] }] 32))
  have HX := hid (show w.heap.size ≤ w5.heap.size ∧ Below w.heap.size w w5 from ⟨by omega, hbw5⟩)
  clear s3 hbw5 hba
  go_wp2
  refine ret_blk3 S3.out (fun W' c0 c1 c2 => by simp [results, Tryz.results176, go_sem, c0, c1, c2]) rfl ?_
  refine ⟨?_, (((HX.out.2.setCell (Nat.le_refl _) _).setCell (Nat.le_refl _) _).setCell (Nat.le_refl _) _).alloc (by simpa using HX.out.1) _⟩
  first | rfl | (rw [HIF.out]; rfl)
theorem rreduced_any (neg : Bool) (u v : Value) (n d k : Nat) (w : World) (hn : NB k n) (hd : NB k d) (hk : k ≤ 900000000000) (hd0 : 0 < d) (hu : RNat w u n) (hv : RNat w v d) :
  Calls Tryz.prog 176 #[.bool neg, u, v] w fun e w' => e = .returned (vRat (enc (mkRat (sg neg n) d))) ∧ Below w.heap.size w w' := by
 rcases Nat.eq_zero_or_pos n with h | h
 ·subst h
  rw [sg_zero, Rat.zero_mkRat]
  exact rreduced_zero neg u v w hu
 exact rreduced_pos neg u v n d k w hn hd hk h hd0 hu hv
theorem RNat.drew {w : World} {v : Value} {n : Nat} (h : RNat w v n) : RNat w.drew v n := h
def Bx (w : World) (b : Nat) (r : GRat) : Prop := Blk3 w b 32 (.bool r.neg) (.string r.num) (.string r.den)
theorem Bx.below {w w' : World} {b : Nat} {r : GRat} (h : Bx w b r) (hb : Below w.heap.size w w') : Bx w' b r := Blk3.below h hb (Blk3.lt h)
theorem Bx.new (w : World) (r : GRat) : Bx (w.alloc (.cells #[.bool r.neg, .string r.num, .string r.den] 32)) w.heap.size r := Blk3.new w _ _ _ _
theorem Bx.alloc {w : World} {b : Nat} {r : GRat} (h : Bx w b r) (o : Obj) : Bx (w.alloc o) b r := Blk3.alloc h o
theorem Bx.drew {w : World} {b : Nat} {r : GRat} (h : Bx w b r) : Bx w.drew b r := h
theorem Bx.facts {w : World} {b : Nat} {r : GRat} (h : Bx w b r) :
  w.cell? ⟨b, 0, none⟩ = some (.bool r.neg) ∧ w.cell? ⟨b, 1, none⟩ = some (.string r.num) ∧ w.cell? ⟨b, 2, none⟩ = some (.string r.den) ∧ (∀ j, w.frozen? ⟨b, j, none⟩ = false) ∧ b < w.heap.size :=
 ⟨h.cells.1, h.cells.2.1, h.cells.2.2.1, h.cells.2.2.2, Blk3.lt h⟩
def gZ : GRat := ⟨false, { data := #[] }, { data := #[] }⟩
theorem gZ_enc : gZ = enc 0 := by rw [enc_zero]; rfl
def Bx3 (w w1 : World) (r1 r2 : GRat) : Prop := Bx w1 w.heap.size r1 ∧ Bx w1 (w.heap.size + 1) r2 ∧ Bx w1 (w.heap.size + 1 + 1) gZ ∧ Below w.heap.size w w1
theorem Bx3.new (w : World) (r1 r2 : GRat) : Bx3 w (((w.alloc (.cells #[.bool r1.neg, .string r1.num, .string r1.den] 32)).alloc (.cells #[.bool r2.neg, .string r2.num, .string r2.den] 32)).alloc (.cells #[.bool false, .string { data := #[] }, .string { data := #[] }] 32)) r1 r2 := by
 have e1 : (w.alloc (.cells #[.bool r1.neg, .string r1.num, .string r1.den] 32)).heap.size = w.heap.size + 1 := by simp
 have h2 := Bx.new (w.alloc (.cells #[.bool r1.neg, .string r1.num, .string r1.den] 32)) r2
 rw [e1] at h2
 have e2 : ((w.alloc (.cells #[.bool r1.neg, .string r1.num, .string r1.den] 32)).alloc (.cells #[.bool r2.neg, .string r2.num, .string r2.den] 32)).heap.size = w.heap.size + 1 + 1 := by simp
 have h3 := Bx.new ((w.alloc (.cells #[.bool r1.neg, .string r1.num, .string r1.den] 32)).alloc (.cells #[.bool r2.neg, .string r2.num, .string r2.den] 32)) gZ
 rw [e2] at h3
 exact ⟨((Bx.new w r1).alloc _).alloc _, h2.alloc _, h3, (((Below.refl _ _).alloc (Nat.le_refl _) _).alloc (by simp) _).alloc (by simp; omega) _⟩
theorem Bx3.next {w w1 w2 : World} {r1 r2 : GRat} (h : Bx3 w w1 r1 r2) (hb : Below w1.heap.size w1 w2) : Bx3 w w2 r1 r2 :=
 ⟨h.1.below hb, h.2.1.below hb, h.2.2.1.below hb, h.2.2.2.step hb⟩
theorem Bx3.ret {w w1 : World} {r1 r2 : GRat} (h : Bx3 w w1 r1 r2) (q : GRat) :
  Blk3 (((w1.setCell ⟨w.heap.size + 1 + 1, 0, none⟩ (.bool q.neg)).setCell ⟨w.heap.size + 1 + 1, 1, none⟩ (.string q.num)).setCell ⟨w.heap.size + 1 + 1, 2, none⟩ (.string q.den)) (w.heap.size + 1 + 1) 32 (.bool q.neg) (.string q.num) (.string q.den) ∧
  Below w.heap.size w (((w1.setCell ⟨w.heap.size + 1 + 1, 0, none⟩ (.bool q.neg)).setCell ⟨w.heap.size + 1 + 1, 1, none⟩ (.string q.num)).setCell ⟨w.heap.size + 1 + 1, 2, none⟩ (.string q.den)) :=
 ⟨(Blk3.stored h.2.2.1 _ _ _).2.2.2, ((h.2.2.2.setCell (by simp; omega) _).setCell (by simp; omega) _).setCell (by simp; omega) _⟩
theorem Bx3.drew {w w1 : World} {r1 r2 : GRat} (h : Bx3 w w1 r1 r2) : Bx3 w w1.drew r1 r2 := ⟨h.1.drew, h.2.1.drew, h.2.2.1.drew, Below.drew h.2.2.2⟩
def Bx2 (w w1 : World) (r1 r2 : GRat) : Prop := Bx w1 w.heap.size r1 ∧ Bx w1 (w.heap.size + 1) r2 ∧ Below w.heap.size w w1
theorem Bx2.new (w : World) (r1 r2 : GRat) : Bx2 w ((w.alloc (.cells #[.bool r1.neg, .string r1.num, .string r1.den] 32)).alloc (.cells #[.bool r2.neg, .string r2.num, .string r2.den] 32)) r1 r2 := by
 have e1 : (w.alloc (.cells #[.bool r1.neg, .string r1.num, .string r1.den] 32)).heap.size = w.heap.size + 1 := by simp
 have h2 := Bx.new (w.alloc (.cells #[.bool r1.neg, .string r1.num, .string r1.den] 32)) r2
 rw [e1] at h2
 exact ⟨(Bx.new w r1).alloc _, h2, ((Below.refl _ _).alloc (Nat.le_refl _) _).alloc (by simp) _⟩
theorem Bx2.next {w w1 w2 : World} {r1 r2 : GRat} (h : Bx2 w w1 r1 r2) (hb : Below w1.heap.size w1 w2) : Bx2 w w2 r1 r2 :=
 ⟨h.1.below hb, h.2.1.below hb, h.2.2.step hb⟩
theorem Bx2.ret {w w1 : World} {r1 r2 : GRat} (h : Bx2 w w1 r1 r2) (q : GRat) :
  Blk3 (((w1.setCell ⟨w.heap.size + 1, 0, none⟩ (.bool q.neg)).setCell ⟨w.heap.size + 1, 1, none⟩ (.string q.num)).setCell ⟨w.heap.size + 1, 2, none⟩ (.string q.den)) (w.heap.size + 1) 32 (.bool q.neg) (.string q.num) (.string q.den) ∧
  Below w.heap.size w (((w1.setCell ⟨w.heap.size + 1, 0, none⟩ (.bool q.neg)).setCell ⟨w.heap.size + 1, 1, none⟩ (.string q.num)).setCell ⟨w.heap.size + 1, 2, none⟩ (.string q.den)) :=
 ⟨(Blk3.stored h.2.1 _ _ _).2.2.2, ((h.2.2.setCell (by simp) _).setCell (by simp) _).setCell (by simp) _⟩
theorem Bx2.drew {w w1 : World} {r1 r2 : GRat} (h : Bx2 w w1 r1 r2) : Bx2 w w1.drew r1 r2 := ⟨h.1.drew, h.2.1.drew, Below.drew h.2.2⟩
def Bx1 (w w1 : World) : Prop := Bx w1 w.heap.size gZ ∧ Below w.heap.size w w1
theorem Bx1.new (w : World) : Bx1 w (w.alloc (.cells #[.bool false, .string { data := #[] }, .string { data := #[] }] 32)) := ⟨Bx.new w gZ, (Below.refl _ _).alloc (Nat.le_refl _) _⟩
theorem Bx1.next {w w1 w2 : World} (h : Bx1 w w1) (hb : Below w1.heap.size w1 w2) : Bx1 w w2 := ⟨h.1.below hb, h.2.step hb⟩
theorem Bx1.ret {w w1 : World} (h : Bx1 w w1) (q : GRat) :
  Blk3 (((w1.setCell ⟨w.heap.size, 0, none⟩ (.bool q.neg)).setCell ⟨w.heap.size, 1, none⟩ (.string q.num)).setCell ⟨w.heap.size, 2, none⟩ (.string q.den)) w.heap.size 32 (.bool q.neg) (.string q.num) (.string q.den) ∧
  Below w.heap.size w (((w1.setCell ⟨w.heap.size, 0, none⟩ (.bool q.neg)).setCell ⟨w.heap.size, 1, none⟩ (.string q.num)).setCell ⟨w.heap.size, 2, none⟩ (.string q.den)) :=
 ⟨(Blk3.stored h.1 _ _ _).2.2.2, ((h.2.setCell (Nat.le_refl _) _).setCell (Nat.le_refl _) _).setCell (Nat.le_refl _) _⟩
attribute [local go_sem ↓] Go.wp_at_zero Go.wp_at_succ
end Go.Proofs.YtokmkopihhnggaaGreatDoor
section
/- Refunds, rates and what is kept, over rational numbers: plain. -/
namespace Go.Proofs.YtokmkopihhnggaaGreatDoor
def NonNeg (l : List Rat) : Prop := ∀ x ∈ l, 0 ≤ x
theorem NonNeg.get {l : List Rat} (h : NonNeg l) (k : Nat) : 0 ≤ l.getD k 0 := by
 rcases Nat.lt_or_ge k l.length with h1 | h1
 ·simp only [List.getD, List.getElem?_eq_getElem h1, Option.getD_some]
  exact h _ (List.getElem_mem h1)
 simp [List.getD, List.getElem?_eq_none h1]
end Go.Proofs.YtokmkopihhnggaaGreatDoor
end
section
/- Refunds grow with the rates; amounts of the laws: plain. -/
namespace Go.Proofs.YtokmkopihhnggaaGreatDoor
def qAmt (x : Nat) : Rat := if x % 5 = 0 then mkRat ((x / 5 % 23 : Nat) : Int) (1 + x / 115 % 6) else if x % 5 = 1 then (((10 * (x / 5 % 4) : Nat) : Int) : Rat) else (((x / 5 % 13 : Nat) : Int) : Rat)
theorem amt_nonneg (x : Nat) : 0 ≤ qAmt x := by
 unfold qAmt
 split
 ·rw [Rat.mkRat_eq_div]
  rw [Rat.div_def]
  apply Rat.mul_nonneg
  ·exact Rat.intCast_nonneg.2 (by omega)
  apply Rat.le_of_lt
  rw [Rat.inv_pos]
  exact Rat.natCast_pos.2 (by omega)
 split
 ·exact Rat.intCast_nonneg.2 (by omega)
 exact Rat.intCast_nonneg.2 (by omega)
theorem amt_qB (x : Nat) : qB 1 (qAmt x) := by
 unfold qAmt
 split
 ·exact qB_mkRat (by simp; omega) (by omega) (by decide)
 split
 ·exact ⟨by rw [Rat.num_intCast]; simp; omega, by rw [Rat.den_intCast]; decide⟩
 exact ⟨by rw [Rat.num_intCast]; simp; omega, by rw [Rat.den_intCast]; decide⟩
end Go.Proofs.YtokmkopihhnggaaGreatDoor
end
namespace Go.Proofs.YtokmkopihhnggaaGreatDoor
open Go.RowKit
attribute [local go_sem ↓] Go.wp_at_zero Go.wp_at_succ
theorem sgnZ_enc (q : Rat) : sgnZ (enc q) = qSgn q := gSgn_enc q
theorem natStr_one : natStr 1 = { data := #[1] } := by
 unfold natStr; rw [natBytes_pos (by decide)]; simp [natBytes_zero]
theorem str_ne {s t : ByteArray} (h : s ≠ t) : (s.toList == t.toList) = false := by
 rw [beq_eq_false_iff_ne]
 intro e
 rw [ByteArray.toList_eq, ByteArray.toList_eq] at e
 exact h (ByteArray.ext (Array.ext' e))
theorem str_ne1 {s : ByteArray} (h : s ≠ { data := #[1] }) : (s.toList == [1]) = false := by
 rw [beq_eq_false_iff_ne]
 intro e
 rw [ByteArray.toList_eq] at e
 exact h (ByteArray.ext (Array.ext' e))
theorem gValid_1 {r : GRat} (c1 : natStr (strVal r.num) ≠ r.num) : gValid r = false := by simp [gValid, c1]
theorem gValid_2 {r : GRat} (c2 : natStr (strVal r.den) ≠ r.den) : gValid r = false := by simp [gValid, c2]
theorem gValid_3 {r : GRat} (c1 : natStr (strVal r.num) = r.num) (c2 : natStr (strVal r.den) = r.den) (h : r.num.size = 0) : gValid r = (!r.neg && decide (r.den.size = 0)) := by simp [gValid, c1, c2, h]
theorem gValid_4 {r : GRat} (c1 : natStr (strVal r.num) = r.num) (c2 : natStr (strVal r.den) = r.den) (h : ¬ r.num.size = 0) : gValid r = (decide (r.den.size = 0) || (decide (strVal r.den ≠ 1) && decide (Nat.gcd (strVal r.num) (strVal r.den) = 1))) := by simp [gValid, c1, c2, h]
theorem qValid_1 (r : GRat) (w : World) (h1 : r.num.size ≤ 500000000000) (c1 : natStr (strVal r.num) ≠ r.num) :
  Calls Tryz.prog 126 #[vRat r] w fun e w' => e = .returned (.bool false) ∧ Below w.heap.size w w' := by
 have N1 := hid (fun w => normalize_any r.num w (by unfold maxLen; omega))
 obtain ⟨neg, num, den⟩ := r
 simp only at *
 generalize natStr (strVal num) = s at *
 have e1 := str_ne c1
 unfold vRat
 simp only
 clear c1
 go_enter Tryz.func126, Tryz.ntmps126
 go_wp2
 go_quiet ((go_at_call 134; exact Calls.quiet_of_same ((N1.out _).mono fun e w' h => ⟨h.1, h.2.symm⟩)))
 go_wp2
 go_ret
 exact ⟨rfl, Below.drewN ((Below.refl _ _).alloc (Nat.le_refl _) _) _⟩
theorem qValid_2 (r : GRat) (w : World) (h1 : r.num.size ≤ 500000000000) (h2 : r.den.size ≤ 500000000000) (c1 : natStr (strVal r.num) = r.num) (c2 : natStr (strVal r.den) ≠ r.den) :
  Calls Tryz.prog 126 #[vRat r] w fun e w' => e = .returned (.bool false) ∧ Below w.heap.size w w' := by
 have N1 := hid (fun w => normalize_any r.num w (by unfold maxLen; omega))
 have N2 := hid (fun w => normalize_any r.den w (by unfold maxLen; omega))
 rw [c1] at N1
 obtain ⟨neg, num, den⟩ := r
 simp only at *
 generalize natStr (strVal den) = s at *
 have e1 := str_ne c2
 unfold vRat
 simp only
 clear c1 c2
 go_enter Tryz.func126, Tryz.ntmps126
 go_wp2
 go_quiet ((first
  | (go_at_call_of 134 (Value.string num); exact Calls.quiet_of_same ((N1.out _).mono fun e w' h => ⟨h.1, h.2.symm⟩))
  | (go_at_call_of 134 (Value.string den); exact Calls.quiet_of_same ((N2.out _).mono fun e w' h => ⟨h.1, h.2.symm⟩))))
 go_wp2
 go_ret
 exact ⟨rfl, Below.drewN ((Below.refl _ _).alloc (Nat.le_refl _) _) _⟩
theorem qValid_3 (r : GRat) (w : World) (h1 : r.num.size ≤ 500000000000) (h2 : r.den.size ≤ 500000000000) (c1 : natStr (strVal r.num) = r.num) (c2 : natStr (strVal r.den) = r.den) (h : r.num.size = 0) :
  Calls Tryz.prog 126 #[vRat r] w fun e w' => e = .returned (.bool (!r.neg && decide (r.den.size = 0))) ∧ Below w.heap.size w w' := by
 have N1 := hid (fun w => normalize_any r.num w (by unfold maxLen; omega))
 have N2 := hid (fun w => normalize_any r.den w (by unfold maxLen; omega))
 rw [c1] at N1
 rw [c2] at N2
 obtain ⟨neg, num, den⟩ := r
 simp only at *
 have hz : num = { data := #[] } := ByteArray.ext (Array.eq_empty_of_size_eq_zero h)
 subst hz
 unfold vRat
 simp only
 clear c1 c2 h h1
 cases neg
 ·by_cases hd : den.size = 0
  ·have hz : den = { data := #[] } := ByteArray.ext (Array.eq_empty_of_size_eq_zero hd)
   subst hz
   clear hd h2
   go_enter Tryz.func126, Tryz.ntmps126
   go_wp2
   go_quiet ((go_at_call 134; exact Calls.quiet_of_same ((N1.out _).mono fun e w' h => ⟨h.1, h.2.symm⟩)))
   go_wp2
   go_ret
   exact ⟨rfl, Below.drewN ((Below.refl _ _).alloc (Nat.le_refl _) _) _⟩
  have hne := num_ne hd
  have HR := hid (show (!false && decide (den.size = 0)) = false by simp [hd])
  rw [HR.out]
  clear hd h2
  go_enter Tryz.func126, Tryz.ntmps126
  go_wp2
  go_quiet ((first
   | (go_at_call_of 134 (Value.string { data := #[] }); exact Calls.quiet_of_same ((N1.out _).mono fun e w' h => ⟨h.1, h.2.symm⟩))
   | (go_at_call_of 134 (Value.string den); exact Calls.quiet_of_same ((N2.out _).mono fun e w' h => ⟨h.1, h.2.symm⟩))))
  go_wp2
  go_ret
  exact ⟨rfl, Below.drewN ((Below.refl _ _).alloc (Nat.le_refl _) _) _⟩
 have HR := hid (show (!true && decide (den.size = 0)) = false by simp)
 rw [HR.out]
 clear h2
 go_enter Tryz.func126, Tryz.ntmps126
 go_wp2
 go_quiet ((first
  | (go_at_call_of 134 (Value.string { data := #[] }); exact Calls.quiet_of_same ((N1.out _).mono fun e w' h => ⟨h.1, h.2.symm⟩))
  | (go_at_call_of 134 (Value.string den); exact Calls.quiet_of_same ((N2.out _).mono fun e w' h => ⟨h.1, h.2.symm⟩))))
 go_wp2
 go_ret
 exact ⟨rfl, Below.drewN ((Below.refl _ _).alloc (Nat.le_refl _) _) _⟩
theorem natBytes_mono {x y : Nat} (h : x ≤ y) : (natBytes x).length ≤ (natBytes y).length := natBytes_len_le (Nat.lt_of_le_of_lt h (natBytes_lt y))
theorem natStr_strVal_size (s : ByteArray) : (natStr (strVal s)).size ≤ s.size := by rw [natStr_size]; exact natBytes_len_le (strVal_lt s)
end Go.Proofs.YtokmkopihhnggaaGreatDoor
