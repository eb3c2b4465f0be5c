/- insolvencyref1: den: walked. -/
import Derived.Test.YtgmedcncbpdimaaDoorRefUM
import Derived.Test.YtgmedcncbpdimaaDoorNat12M
import Derived.Test.YtgmedcncbpdimaaDoorQ1M
import Derived.Test.YtgmedcncbpdimaaDoorNat17M
import Derived.Test.YtgmedcncbpdimaaDoorNat10M
import Derived.Test.YtgmedcncbpdimaaDoorKnuthM
set_option linter.unusedVariables false
set_option linter.unusedSimpArgs false
section
/- insolvencyref1: den: walked. -/
namespace Go.Proofs.YtgmedcncbpdimaaDoor
open Go.RowKit

theorem one_limb (w : World) (z : Nat) (hz : z < 4294967296) : rSlice 1 rU32 (w.alloc (.cells #[.int .u32 (z : Int)] 85)) (LT (w.alloc (.cells #[.int .u32 (z : Int)] 85)).heap.size) [.slice (some ⟨w.heap.size, 0, none⟩) 1 1] [z] := by
  have hO : OwnL (w.alloc (.cells #[.int .u32 (z : Int)] 85)) w.heap.size 1 [z] := by
    refine ⟨rfl, fun x hx => by simp at hx; omega, fun j => .int .u32 (([z] : List Nat).getD j 0 : Nat), ?_, fun j => rfl⟩
    have := Own.new w 85 1 (fun j => .int .u32 (([z] : List Nat).getD j 0 : Nat))
    have e : (Array.range 1).map (fun j => Value.int .u32 (([z] : List Nat).getD j 0 : Nat)) = #[.int .u32 (z : Int)] := by
      apply Array.ext'
      simp [List.range_succ]
    rw [e] at this
    exact this
  exact hO.slice (by omega)

theorem limbsOf_1 : limbsOf 1 = [1] := by rw [limbsOf_pos (by decide)]; simp [limbsOf_zero]

theorem rden_any (r : GRat) (w : World) (hd : r.den.size ≤ 1000000000000) : Calls Tryd.prog 65 #[vRat r] w fun e w' => ∃ u, e = .returned u ∧ rSlice 1 rU32 w' (LT w'.heap.size) [u] (limbsOf (gDen r)) ∧ Below w.heap.size w w' := by
  by_cases h : r.den.size = 0
  · have hz : r.den = { data := #[] } := ByteArray.ext (Array.eq_empty_of_size_eq_zero h)
    have hR := hid (show gDen r = 1 by unfold gDen; rw [if_pos h])
    rw [hR.out]
    unfold vRat
    rw [hz]
    clear h hz
    go_enter Tryd.func65, Tryd.ntmps65
    go_wp2
    go_returns
    refine ⟨_, rfl, ?_, ((Below.refl _ _).alloc (Nat.le_refl _) _).alloc (by simp) _⟩
    rw [limbsOf_1]
    have := one_limb (w.alloc (.cells #[.bool r.neg, .string r.num, .string { data := #[] }] 25)) 1 (by decide)
    simpa using this
  · have hz := num_ne h
    have hR := hid (show gDen r = strVal r.den by unfold gDen; rw [if_neg h])
    rw [hR.out]
    have HL := hid (fun w => limbs_any r.den w hd)
    unfold vRat
    clear h
    go_enter Tryd.func65, Tryd.ntmps65
    go_wp2_with fail
    refine Calls.mono (HL.out _) ?_
    rintro e w1 ⟨u, rfl, hu, hb⟩
    go_wp2
    go_returns
    exact ⟨_, rfl, hu, ((Below.refl _ _).alloc (Nat.le_refl _) _).step hb⟩

end Go.Proofs.YtgmedcncbpdimaaDoor
end
section
/- natural: Divide, GCD: walked. -/
namespace Go.Proofs.YtgmedcncbpdimaaDoor
open Go.RowKit

theorem limbsOf_mono {a b : Nat} (h : a ≤ b) : (limbsOf a).length ≤ (limbsOf b).length := by
  apply limbsOf_len_le
  have := limbsVal_lt (limbsOf_lt b)
  rw [limbsVal_limbsOf] at this
  omega

theorem divide_any (S : Nat → Prop) (u v : Value) (x y : Nat) (w : World) (hS : ∀ b, S b → b < w.heap.size) (hl : (limbsOf x).length ≤ 999999999999) (hy : 0 < y) (hu : rSlice 1 rU32 w S [u] (limbsOf x)) (hv : rSlice 1 rU32 w S [v] (limbsOf y)) :
    Calls Tryd.prog 99 #[u, v] w fun e w' => ∃ q r, e = .returned (.tuple #[q, r]) ∧ rSlice 1 rU32 w' (LT w'.heap.size) [q] (limbsOf (x / y)) ∧ rSlice 1 rU32 w' (LT w'.heap.size) [r] (limbsOf (x % y)) ∧ Below w.heap.size w w' := by
  have := limbsOf_len_pos hy
  by_cases h1 : x < y
  · exact divide_lt S u v x y w hS h1 hu hv
  · by_cases h2 : (limbsOf y).length = 1
    · exact divide_small S u v x y w hS (by omega) (by omega) h2 hu hv
    · exact divide_long S u v x y w hS hl (by omega) (by omega) hu hv

theorem limbsOf_nil {y : Nat} (h : (limbsOf y).length = 0) : y = 0 := by
  rcases Nat.eq_zero_or_pos y with h0 | h0
  · exact h0
  · have := limbsOf_len_pos h0; omega

set_option maxRecDepth 100000 in
theorem Divide_ok (a b : ByteArray) (w : World) (ha : a.size ≤ 500000000000) (hb : b.size ≤ 500000000000) (h : 0 < strVal b) :
    Calls Tryd.prog 84 #[.string a, .string b] w fun e w' => e = .returned (.tuple #[.string (natStr (strVal a / strVal b)), .string (natStr (strVal a % strVal b)), .bool true]) ∧ Below w.heap.size w w' := by
  have la := strVal_limbs_len a
  have lb := strVal_limbs_len b
  have hbl := limbsOf_len_pos h
  have hne : ¬ ((limbsOf (strVal b)).length : Int) = 0 := by omega
  have lq := limbsOf_mono (Nat.div_le_self (strVal a) (strVal b))
  have lr := limbsOf_mono (Nat.mod_le (strVal a) (strVal b))
  have vq := limbsVal_limbsOf (strVal a / strVal b)
  have vr := limbsVal_limbsOf (strVal a % strVal b)
  have H1 := hid (parse_any b w (by omega))
  have H2 := hid (fun w => parse_any a w (by omega))
  have H3 := hid (fun u v w h1 h2 => divide_any _ u v (strVal a) (strVal b) w (fun _ h => h) (by omega) h h1 h2)
  generalize strVal a / strVal b = q at *
  generalize strVal a % strVal b = r at *
  have HL := hid (show (limbsOf q).length ≤ 1000000000000 ∧ (limbsOf r).length ≤ 1000000000000 ∧ limbsVal (limbsOf q) = q ∧ limbsVal (limbsOf r) = r from ⟨by omega, by omega, vq, vr⟩)
  clear lq lr vq vr h hbl la
  go_enter Tryd.func84, Tryd.ntmps84
  go_wp2_with fail
  refine Calls.mono H1.out ?_
  rintro e w1 ⟨v, rfl, hv, hb1⟩
  have hv' := hid hv
  obtain ⟨va, vc, rfl, v1, v2, v3, v4⟩ := u32s_open hv
  clear hv v4
  generalize hm : (limbsOf (strVal b)).length = m at *
  go_wp2_with fail
  refine Calls.mono (H2.out _) ?_
  rintro e w2 ⟨u, rfl, hu, hb2⟩
  have hv2 := (stays_rSlice stays_rU32).below hv'.out hb2 hb2.size
  have HD := hid (H3.out _ _ _ hu hv2)
  have hbb := hb1.step hb2
  clear hu hv2 hv' hm
  go_wp2_with fail
  refine Calls.mono HD.out ?_
  rintro e w3 ⟨q', r', rfl, hq, hr, hb3⟩
  have HQ := hid (text_any _ _ _ w3 (fun _ h => h) HL.out.1 hq)
  have HR := hid hr
  have HB := hid (hbb.step hb3)
  clear hr hq
  rw [HL.out.2.2.1] at HQ
  go_wp2_with fail
  refine Calls.mono HQ.out ?_
  rintro e w4 ⟨rfl, hb4⟩
  have hr4 := (stays_rSlice stays_rU32).below HR.out hb4 hb4.size
  have HR4 := hid (text_any _ _ _ w4 (fun _ h => h) HL.out.2.1 hr4)
  rw [HL.out.2.2.2] at HR4
  clear hr4
  go_wp2_with fail
  refine Calls.mono HR4.out ?_
  rintro e w5 ⟨rfl, hb5⟩
  go_wp2
  go_ret3
  exact ⟨rfl, HB.out.step (hb4.step hb5)⟩

/-- What a slice of words tells, read off the memory. -/
def slVal (w : World) : Value → Nat
  | .slice (some a) n _ => limbsVal ((List.range n).map fun j => match w.cell? ⟨a.block, a.off + j, none⟩ with | some (.int _ x) => x.toNat | _ => 0)
  | _ => 0

theorem slVal_of {w : World} {S : Nat → Prop} {v : Value} {xs : List Nat} (h : rSlice 1 rU32 w S [v] xs) : slVal w v = limbsVal xs := by
  obtain ⟨a, cap, rfl, h1, h2, h3, h4⟩ := u32s_open h
  rcases h4 with rfl | ⟨b, off, rfl, h4⟩
  · cases a <;> simp [slVal, limbsVal]
  · simp only [slVal]
    congr 1
    apply List.ext_getElem (by simp)
    intro j hj1 hj2
    simp only [List.getElem_map, List.getElem_range]
    rw [(h4.u32 hj2).1]
    simp

theorem gcd_measure {u v : Nat} (hv : 0 < v) : u % v < v := Nat.mod_lt _ hv

set_option maxRecDepth 100000 in
theorem GCD_any (a b : ByteArray) (w : World) (ha : a.size ≤ 500000000000) (hb : b.size ≤ 500000000000) :
    Calls Tryd.prog 83 #[.string a, .string b] w fun e w' => e = .returned (.string (natStr (Nat.gcd (strVal a) (strVal b)))) ∧ Below w.heap.size w w' := by
  have la := strVal_limbs_len a
  have lb := strVal_limbs_len b
  have H1 := hid (parse_any a w (by omega))
  have H2 := hid (fun w => parse_any b w (by omega))
  obtain ⟨A, hA⟩ : ∃ A, A = strVal a := ⟨_, rfl⟩
  obtain ⟨B, hB⟩ : ∃ A, A = strVal b := ⟨_, rfl⟩
  rw [← hA] at la H1 ⊢
  rw [← hB] at lb H2 ⊢
  have hla : (limbsOf A).length ≤ 500000000000 := by omega
  have hlb : (limbsOf B).length ≤ 500000000000 := by omega
  clear la lb hA hB
  go_enter Tryd.func83, Tryd.ntmps83
  go_wp2_with fail
  refine Calls.mono H1.out ?_
  rintro e w1 ⟨u, rfl, hu, hb1⟩
  have HU := hid hu
  clear hu
  go_wp2_with fail
  refine Calls.mono (H2.out _) ?_
  rintro e w2 ⟨v, rfl, hv, hb2⟩
  have HU2 := hid ((stays_rSlice stays_rU32).below HU.out hb2 hb2.size)
  have HV2 := hid hv
  have HB := hid (hb1.step hb2)
  clear hv
  have HLa := hid hla
  have HLb := hid hlb
  clear hla hlb
  go_wp2
  go_loopw [5, 6, 7, 8] (fun p q _ _ wr => ∃ (x y : Nat), Hid (rSlice 1 rU32 wr (LT wr.heap.size) [p] (limbsOf x)) ∧ Hid (rSlice 1 rU32 wr (LT wr.heap.size) [q] (limbsOf y)) ∧ Hid (Below w.heap.size w wr) ∧ Hid (Nat.gcd x y = Nat.gcd A B) ∧ Hid ((limbsOf x).length ≤ 500000000000) ∧ Hid ((limbsOf y).length ≤ 500000000000)) (fun _ q _ _ wr => slVal wr q)
  case atStart => exact ⟨A, B, HU2, HV2, HB, rfl, HLa, HLb⟩
  case round =>
    clear HU2 HV2 HB HU H1 H2
    obtain ⟨x, y, HX, HY, HB, HG, HLx, HLy⟩ := hrel
    have hy := HY.out
    have hms := hid (slVal_of hy)
    rw [limbsVal_limbsOf] at hms
    obtain ⟨qa, qc, rfl, q1, q2, q3, q4⟩ := u32s_open hy
    clear q4 hy
    by_cases h0 : 0 < y
    · have hyl := limbsOf_len_pos h0
      have HD := hid (divide_any _ _ _ x y _ (fun _ h => h) (Nat.le_trans HLx.out (by decide)) h0 HX.out HY.out)
      have HLr := hid (Nat.le_trans (limbsOf_mono (Nat.le_of_lt (Nat.mod_lt x h0))) HLy.out)
      have HGr := hid (show Nat.gcd y (x % y) = Nat.gcd A B by rw [← HG.out, Nat.gcd_comm y, ← Nat.gcd_rec, Nat.gcd_comm])
      have H0 := hid (Nat.mod_lt x h0)
      generalize x % y = z at *
      obtain ⟨n, hn⟩ : ∃ n, n = (limbsOf y).length := ⟨_, rfl⟩
      rw [← hn] at HD HY q1 hms hyl ⊢
      clear HLx HG HX h0 hn
      go_wp2_with fail
      refine Calls.mono HD.out ?_
      rintro e w3 ⟨q', r', rfl, hq, hr, hb3⟩
      have HR := hid hr
      have HB3 := hid (HB.out.step hb3)
      have hms3 := hid (slVal_of hr)
      rw [limbsVal_limbsOf] at hms3
      have HY3 := hid ((stays_rSlice stays_rU32).below HY.out hb3 hb3.size)
      clear hq hr
      go_wp2
      go_roundw
      case rel => exact ⟨y, z, HY3, HR, HB3, HGr, HLy, HLr⟩
      case measure =>
        have e1 := hms.out
        have e2 := hms3.out
        have e3 := H0.out
        rw [e1]
        rw [e2]
        exact e3
    · have hy0 : y = 0 := by omega
      subst hy0
      rw [limbsOf_zero] at q1 hms ⊢
      have HT := hid (text_any _ _ _ _ (fun _ h => h) (Nat.le_trans HLx.out (by decide)) HX.out)
      have hg := HG.out
      rw [Nat.gcd_zero_right] at hg
      rw [limbsVal_limbsOf, hg] at HT
      go_wp2_with fail
      refine Calls.mono HT.out ?_
      rintro e w4 ⟨rfl, hb4⟩
      go_wp2
      go_ret
      exact ⟨rfl, HB.out.step hb4⟩

end Go.Proofs.YtgmedcncbpdimaaDoor
end
section
/- insolvencyref1: common: walked, over the contract of divide. -/
namespace Go.Proofs.YtgmedcncbpdimaaDoor
open Go.RowKit

/-- The contract of the reference's divide. -/
def RDiv : Prop := ∀ (S : Nat → Prop) (u v : Value) (x y : Nat) (w : World), (∀ b, S b → b < w.heap.size) → (limbsOf x).length ≤ 999999999999 → 0 < y → rSlice 1 rU32 w S [u] (limbsOf x) → rSlice 1 rU32 w S [v] (limbsOf y) →
    Calls Tryd.prog 91 #[u, v] w fun e w' => ∃ q r, e = .returned (.tuple #[q, r]) ∧ rSlice 1 rU32 w' (LT w'.heap.size) [q] (limbsOf (x / y)) ∧ rSlice 1 rU32 w' (LT w'.heap.size) [r] (limbsOf (x % y)) ∧ Below w.heap.size w w'

set_option maxRecDepth 100000 in
theorem common_any (hdiv : RDiv) (u v : Value) (A B : Nat) (w : World) (hla : (limbsOf A).length ≤ 999999999999) (hlb : (limbsOf B).length ≤ 999999999999) (hu : rSlice 1 rU32 w (LT w.heap.size) [u] (limbsOf A)) (hv : rSlice 1 rU32 w (LT w.heap.size) [v] (limbsOf B)) :
    Calls Tryd.prog 90 #[u, v] w fun e w' => ∃ r, e = .returned r ∧ rSlice 1 rU32 w' (LT w'.heap.size) [r] (limbsOf (Nat.gcd A B)) ∧ Below w.heap.size w w' := by
  have HU2 := hid hu
  have HV2 := hid hv
  have HB := hid (Below.refl w.heap.size w)
  have HLa := hid hla
  have HLb := hid hlb
  have HDIV := hid hdiv
  clear hla hlb hu hv hdiv
  go_enter Tryd.func90, Tryd.ntmps90
  go_wp2
  go_loopw [0, 1, 5, 6] (fun p q _ _ wr => ∃ (x y : Nat), Hid (rSlice 1 rU32 wr (LT wr.heap.size) [p] (limbsOf x)) ∧ Hid (rSlice 1 rU32 wr (LT wr.heap.size) [q] (limbsOf y)) ∧ Hid (Below w.heap.size w wr) ∧ Hid (Nat.gcd x y = Nat.gcd A B) ∧ Hid ((limbsOf x).length ≤ 999999999999) ∧ Hid ((limbsOf y).length ≤ 999999999999)) (fun _ q _ _ wr => slVal wr q)
  case atStart => exact ⟨A, B, HU2, HV2, HB, rfl, HLa, HLb⟩
  case round =>
    clear HU2 HV2 HB
    obtain ⟨x, y, HX, HY, HB, HG, HLx, HLy⟩ := hrel
    have hy := HY.out
    have hms := hid (slVal_of hy)
    rw [limbsVal_limbsOf] at hms
    obtain ⟨qa, qc, rfl, q1, q2, q3, q4⟩ := u32s_open hy
    clear q4 hy
    by_cases h0 : 0 < y
    · have hyl := limbsOf_len_pos h0
      have HD := hid (HDIV.out _ _ _ x y _ (fun _ h => h) HLx.out h0 HX.out HY.out)
      have HLr := hid (Nat.le_trans (limbsOf_mono (Nat.le_of_lt (Nat.mod_lt x h0))) HLy.out)
      have HGr := hid (show Nat.gcd y (x % y) = Nat.gcd A B by rw [← HG.out, Nat.gcd_comm y, ← Nat.gcd_rec, Nat.gcd_comm])
      have H0 := hid (Nat.mod_lt x h0)
      generalize x % y = z at *
      obtain ⟨n, hn⟩ : ∃ n, n = (limbsOf y).length := ⟨_, rfl⟩
      rw [← hn] at HD HY q1 hms hyl ⊢
      clear HLx HG HX h0 hn
      go_wp2_with fail
      refine Calls.mono HD.out ?_
      rintro e w3 ⟨q', r', rfl, hq, hr, hb3⟩
      have HR := hid hr
      have HB3 := hid (HB.out.step hb3)
      have hms3 := hid (slVal_of hr)
      rw [limbsVal_limbsOf] at hms3
      have HY3 := hid ((stays_rSlice stays_rU32).below HY.out hb3 hb3.size)
      clear hq hr
      go_wp2
      go_roundw
      case rel => exact ⟨y, z, HY3, HR, HB3, HGr, HLy, HLr⟩
      case measure =>
        have e1 := hms.out
        have e2 := hms3.out
        have e3 := H0.out
        rw [e1]
        rw [e2]
        exact e3
    · have hy0 : y = 0 := by omega
      subst hy0
      rw [limbsOf_zero] at q1 hms ⊢
      have hg := HG.out
      rw [Nat.gcd_zero_right] at hg
      rw [hg] at HX
      go_wp2
      go_ret
      exact ⟨_, rfl, HX.out, HB.out⟩

end Go.Proofs.YtgmedcncbpdimaaDoor
end
