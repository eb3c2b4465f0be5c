/- Rational numbers: what sums, products and quotients of numerators and denominators are: plain. -/
import Derived.Test.YtokmkopihhnggaaDoorNat16M
import Derived.Test.YtokmkopihhnggaaDoorRef6M
import Derived.Test.YtokmkopihhnggaaDoorNat8M
import Derived.Deep.DeepCutAuto
import Derived.Handy
import Derived.Deep.DrawnRows
import Derived.Deep.QuietTactic
import Derived.BigQuiet
set_option linter.unusedVariables false
set_option linter.unusedSimpArgs false
set_option linter.defProp false
set_option linter.unnecessarySimpa false
section
/- Rational numbers: what sums, products and quotients of numerators and denominators are: plain. -/
namespace Go.Proofs.YtokmkopihhnggaaDoor
def qNeg (q : Rat) : Bool := decide (q.num < 0)
theorem qNeg_sg (q : Rat) : sg (qNeg q) q.num.natAbs = q.num := sg_of _
theorem sg_add_same (b : Bool) (x y : Nat) : sg b x + sg b y = sg b (x + y) := by unfold sg; cases b <;> simp <;> omega
theorem sg_add_lt {b c : Bool} {x y : Nat} (h : b ≠ c) (hxy : x < y) : sg b x + sg c y = sg c (y - x) := by
  unfold sg; cases b <;> cases c <;> simp at * <;> omega
theorem sg_add_ge {b c : Bool} {x y : Nat} (h : b ≠ c) (hxy : y ≤ x) : sg b x + sg c y = sg b (x - y) := by
  unfold sg; cases b <;> cases c <;> simp at * <;> omega
theorem sg_mul_nat (b : Bool) (x d : Nat) : sg b x * (d : Int) = sg b (x * d) := by unfold sg; cases b <;> simp [Int.neg_mul]
theorem qadd_sg (p q : Rat) : p + q = mkRat (sg (qNeg p) (p.num.natAbs * q.den) + sg (qNeg q) (q.num.natAbs * p.den)) (p.den * q.den) := by
  rw [Rat.add_def', ← sg_mul_nat, ← sg_mul_nat, qNeg_sg, qNeg_sg]
theorem qadd_sg' {p q : Rat} (h : p.den = q.den) : p + q = mkRat (sg (qNeg p) p.num.natAbs + sg (qNeg q) q.num.natAbs) p.den := by
  rw [Rat.add_def', qNeg_sg, qNeg_sg, ← h, ← Int.add_mul, Rat.mkRat_mul_right p.den_nz]
theorem qadd_same {p q : Rat} (h : qNeg p = qNeg q) : p + q = mkRat (sg (qNeg p) (p.num.natAbs * q.den + q.num.natAbs * p.den)) (p.den * q.den) := by
  rw [qadd_sg, ← h, sg_add_same]
theorem qadd_lt {p q : Rat} (h : qNeg p ≠ qNeg q) (hl : p.num.natAbs * q.den < q.num.natAbs * p.den) : p + q = mkRat (sg (qNeg q) (q.num.natAbs * p.den - p.num.natAbs * q.den)) (p.den * q.den) := by
  rw [qadd_sg, sg_add_lt h hl]
theorem qadd_ge {p q : Rat} (h : qNeg p ≠ qNeg q) (hl : q.num.natAbs * p.den ≤ p.num.natAbs * q.den) : p + q = mkRat (sg (qNeg p) (p.num.natAbs * q.den - q.num.natAbs * p.den)) (p.den * q.den) := by
  rw [qadd_sg, sg_add_ge h hl]
theorem qadd_same' {p q : Rat} (hd : p.den = q.den) (h : qNeg p = qNeg q) : p + q = mkRat (sg (qNeg p) (p.num.natAbs + q.num.natAbs)) p.den := by
  rw [qadd_sg' hd, ← h, sg_add_same]
theorem qadd_lt' {p q : Rat} (hd : p.den = q.den) (h : qNeg p ≠ qNeg q) (hl : p.num.natAbs < q.num.natAbs) : p + q = mkRat (sg (qNeg q) (q.num.natAbs - p.num.natAbs)) p.den := by
  rw [qadd_sg' hd, sg_add_lt h hl]
theorem qadd_ge' {p q : Rat} (hd : p.den = q.den) (h : qNeg p ≠ qNeg q) (hl : q.num.natAbs ≤ p.num.natAbs) : p + q = mkRat (sg (qNeg p) (p.num.natAbs - q.num.natAbs)) p.den := by
  rw [qadd_sg' hd, sg_add_ge h hl]
def qCmp (p q : Rat) : Int := if p < q then -1 else if q < p then 1 else 0
def natCmp' (x y : Nat) : Int := if x < y then -1 else if y < x then 1 else 0
theorem qlt_iff (p q : Rat) : p < q ↔ sg (qNeg p) (p.num.natAbs * q.den) < sg (qNeg q) (q.num.natAbs * p.den) := by
  rw [Rat.lt_iff, ← sg_mul_nat, ← sg_mul_nat, qNeg_sg, qNeg_sg]
theorem qNeg_iff (q : Rat) : qNeg q = true ↔ q < 0 := by
  unfold qNeg
  rw [decide_eq_true_iff, Rat.lt_iff]
  simp
theorem qpos_iff (q : Rat) : (qNeg q = false ∧ q ≠ 0) ↔ 0 < q := by
  rw [← Bool.not_eq_true, qNeg_iff, Rat.not_lt]
  constructor
  · rintro ⟨h1, h2⟩; exact Rat.lt_of_le_of_ne h1 (fun h => h2 h.symm)
  intro h; exact ⟨Rat.le_of_lt h, Rat.ne_of_gt h⟩
def gSgn (r : GRat) : Int := if r.num.size = 0 then 0 else if r.neg = true then -1 else 1
def qSgn (q : Rat) : Int := qCmp q 0
theorem gSgn_enc (q : Rat) : gSgn (enc q) = qSgn q := by
  unfold gSgn qSgn qCmp
  by_cases h0 : q = 0
  · rw [if_pos ((enc_num0 q).2 h0)]; subst h0
    simp [Rat.lt_irrefl]
  rw [if_neg (fun h => h0 ((enc_num0 q).1 h))]
  show (if qNeg q = true then _ else _) = _
  by_cases h : qNeg q = true
  · rw [if_pos h, if_pos ((qNeg_iff q).1 h)]
  rw [if_neg h, if_neg (fun h' => h ((qNeg_iff q).2 h')), if_pos ((qpos_iff q).1 ⟨by simpa using h, h0⟩)]
theorem qCmp_pos {p q : Rat} (hp : qNeg p = false) (hq : qNeg q = false) : qCmp p q = natCmp' (p.num.natAbs * q.den) (q.num.natAbs * p.den) := by
  unfold qCmp natCmp'
  simp only [qlt_iff, hp, hq, sg]
  simp only [Bool.false_eq_true, if_false, Int.ofNat_lt]
theorem qCmp_neg {p q : Rat} (hp : qNeg p = true) (hq : qNeg q = true) : qCmp p q = - natCmp' (p.num.natAbs * q.den) (q.num.natAbs * p.den) := by
  unfold qCmp natCmp'
  simp only [qlt_iff, hp, hq, sg]
  simp only [if_true]
  by_cases h1 : p.num.natAbs * q.den < q.num.natAbs * p.den
  · rw [if_neg (by omega), if_pos (by omega), if_pos h1]; rfl
  by_cases h2 : q.num.natAbs * p.den < p.num.natAbs * q.den
  · rw [if_pos (by omega), if_neg h1, if_pos h2]
  rw [if_neg (by omega), if_neg (by omega), if_neg h1, if_neg h2]; rfl
theorem qCmp_sgn {p q : Rat} (h : qSgn p ≠ qSgn q) : qCmp p q = if qSgn p < qSgn q then -1 else 1 := by
  unfold qSgn qCmp at *
  grind
theorem qSgn_eq {p q : Rat} (h : qSgn p = qSgn q) : (qNeg p = true ∧ qNeg q = true) ∨ (qNeg p = false ∧ qNeg q = false) := by
  have a := qNeg_iff p
  have b := qNeg_iff q
  unfold qSgn qCmp at h
  grind
theorem enc_opp (q : Rat) : (if (enc q).num.size = 0 then enc q else ⟨!(enc q).neg, (enc q).num, (enc q).den⟩) = enc (-q) := by
  by_cases h0 : q = 0
  · rw [if_pos ((enc_num0 q).2 h0)]; subst h0; rfl
  rw [if_neg (fun h => h0 ((enc_num0 q).1 h))]
  have hn : q.num ≠ 0 := fun h => h0 (Rat.num_eq_zero.1 h)
  unfold enc
  simp only [Rat.neg_num, Rat.neg_den, Int.natAbs_neg]
  congr 1
  rw [← decide_not]
  apply decide_eq_decide.2
  omega
end Go.Proofs.YtokmkopihhnggaaDoor
end
section
/- insolvencyref1: den: walked. -/
namespace Go.Proofs.YtokmkopihhnggaaDoor
open Go.RowKit
end Go.Proofs.YtokmkopihhnggaaDoor
end
section
/- natural: Divide, GCD: walked. -/
namespace Go.Proofs.YtokmkopihhnggaaDoor
open Go.RowKit
theorem limbsOf_mono {a b : Nat} (h : a ≤ b) : (limbsOf a).length ≤ (limbsOf b).length := by
  apply limbsOf_len_le
  have := limbsVal_lt (limbsOf_lt b)
  rw [limbsVal_limbsOf] at this
  omega
theorem divide_any (S : Nat → Prop) (u v : Value) (x y : Nat) (w : World) (hS : ∀ b, S b → b < w.heap.size) (hl : (limbsOf x).length ≤ 999999999999) (hy : 0 < y) (hu : rSlice 1 rU32 w S [u] (limbsOf x)) (hv : rSlice 1 rU32 w S [v] (limbsOf y)) :
    Calls Tryd.prog 41 #[u, v] w fun e w' => ∃ q r, e = .returned (.tuple #[q, r]) ∧ rSlice 1 rU32 w' (LT w'.heap.size) [q] (limbsOf (x / y)) ∧ rSlice 1 rU32 w' (LT w'.heap.size) [r] (limbsOf (x % y)) ∧ Below w.heap.size w w' := by
  have := limbsOf_len_pos hy
  by_cases h1 : x < y
  · exact divide_lt S u v x y w hS h1 hu hv
  by_cases h2 : (limbsOf y).length = 1
  · exact divide_small S u v x y w hS (by omega) (by omega) h2 hu hv
  exact divide_long S u v x y w hS hl (by omega) (by omega) hu hv
set_option maxRecDepth 100000 in
theorem Divide_ok (a b : ByteArray) (w : World) (ha : a.size ≤ 500000000000) (hb : b.size ≤ 500000000000) (h : 0 < strVal b) :
    Calls Tryd.prog 25 #[.string a, .string b] w fun e w' => e = .returned (.tuple #[.string (natStr (strVal a / strVal b)), .string (natStr (strVal a % strVal b)), .bool true]) ∧ Below w.heap.size w w' := by
  have la := strVal_limbs_len a
  have lb := strVal_limbs_len b
  have hbl := limbsOf_len_pos h
  have hne : ¬ ((limbsOf (strVal b)).length : Int) = 0 := by omega
  have lq := limbsOf_mono (Nat.div_le_self (strVal a) (strVal b))
  have lr := limbsOf_mono (Nat.mod_le (strVal a) (strVal b))
  have vq := limbsVal_limbsOf (strVal a / strVal b)
  have vr := limbsVal_limbsOf (strVal a % strVal b)
  have H1 := hid (parse_any b w (by omega))
  have H2 := hid (fun w => parse_any a w (by omega))
  have H3 := hid (fun u v w h1 h2 => divide_any _ u v (strVal a) (strVal b) w (fun _ h => h) (by omega) h h1 h2)
  generalize strVal a / strVal b = q at *
  generalize strVal a % strVal b = r at *
  have HL := hid (show (limbsOf q).length ≤ 1000000000000 ∧ (limbsOf r).length ≤ 1000000000000 ∧ limbsVal (limbsOf q) = q ∧ limbsVal (limbsOf r) = r from ⟨by omega, by omega, vq, vr⟩)
  clear lq lr vq vr h hbl la
  go_enter Tryd.func25, Tryd.ntmps25
  go_wp2_with fail
  refine Calls.mono H1.out ?_
  rintro e w1 ⟨v, rfl, hv, hb1⟩
  have hv' := hid hv
  obtain ⟨va, vc, rfl, v1, v2, v3, v4⟩ := u32s_open hv
  clear hv v4
  generalize hm : (limbsOf (strVal b)).length = m at *
  go_wp2_with fail
  refine Calls.mono (H2.out _) ?_
  rintro e w2 ⟨u, rfl, hu, hb2⟩
  have hv2 := (stays_rSlice stays_rU32).below hv'.out hb2 hb2.size
  have HD := hid (H3.out _ _ _ hu hv2)
  have hbb := hb1.step hb2
  clear hu hv2 hv' hm
  go_wp2_with fail
  refine Calls.mono HD.out ?_
  rintro e w3 ⟨q', r', rfl, hq, hr, hb3⟩
  have HQ := hid (text_any _ _ _ w3 (fun _ h => h) HL.out.1 hq)
  have HR := hid hr
  have HB := hid (hbb.step hb3)
  clear hr hq
  rw [HL.out.2.2.1] at HQ
  go_wp2_with fail
  refine Calls.mono HQ.out ?_
  rintro e w4 ⟨rfl, hb4⟩
  have hr4 := (stays_rSlice stays_rU32).below HR.out hb4 hb4.size
  have HR4 := hid (text_any _ _ _ w4 (fun _ h => h) HL.out.2.1 hr4)
  rw [HL.out.2.2.2] at HR4
  clear hr4
  go_wp2_with fail
  refine Calls.mono HR4.out ?_
  rintro e w5 ⟨rfl, hb5⟩
  go_wp2
  go_ret3
  exact ⟨rfl, HB.out.step (hb4.step hb5)⟩
def slVal (w : World) : Value → Nat
  | .slice (some a) n _ => limbsVal ((List.range n).map fun j => match w.cell? ⟨a.block, a.off + j, none⟩ with | some (.int _ x) => x.toNat | _ => 0)
  | _ => 0
theorem slVal_of {w : World} {S : Nat → Prop} {v : Value} {xs : List Nat} (h : rSlice 1 rU32 w S [v] xs) : slVal w v = limbsVal xs := by
  obtain ⟨a, cap, rfl, h1, h2, h3, h4⟩ := u32s_open h
  rcases h4 with rfl | ⟨b, off, rfl, h4⟩
  · cases a <;> simp [slVal, limbsVal]
  simp only [slVal]
  congr 1
  apply List.ext_getElem (by simp)
  intro j hj1 hj2
  simp only [List.getElem_map, List.getElem_range]
  rw [(h4.u32 hj2).1]
  simp
set_option maxRecDepth 100000 in
theorem GCD_any (a b : ByteArray) (w : World) (ha : a.size ≤ 500000000000) (hb : b.size ≤ 500000000000) :
    Calls Tryd.prog 24 #[.string a, .string b] w fun e w' => e = .returned (.string (natStr (Nat.gcd (strVal a) (strVal b)))) ∧ Below w.heap.size w w' := by
  have la := strVal_limbs_len a
  have lb := strVal_limbs_len b
  have H1 := hid (parse_any a w (by omega))
  have H2 := hid (fun w => parse_any b w (by omega))
  obtain ⟨A, hA⟩ : ∃ A, A = strVal a := ⟨_, rfl⟩
  obtain ⟨B, hB⟩ : ∃ A, A = strVal b := ⟨_, rfl⟩
  rw [← hA] at la H1 ⊢
  rw [← hB] at lb H2 ⊢
  have hla : (limbsOf A).length ≤ 500000000000 := by omega
  have hlb : (limbsOf B).length ≤ 500000000000 := by omega
  clear la lb hA hB
  go_enter Tryd.func24, Tryd.ntmps24
  go_wp2_with fail
  refine Calls.mono H1.out ?_
  rintro e w1 ⟨u, rfl, hu, hb1⟩
  have HU := hid hu
  clear hu
  go_wp2_with fail
  refine Calls.mono (H2.out _) ?_
  rintro e w2 ⟨v, rfl, hv, hb2⟩
  have HU2 := hid ((stays_rSlice stays_rU32).below HU.out hb2 hb2.size)
  have HV2 := hid hv
  have HB := hid (hb1.step hb2)
  clear hv
  have HLa := hid hla
  have HLb := hid hlb
  clear hla hlb
  go_wp2
  go_loopw [5, 6, 7, 8] (fun p q _ _ wr => ∃ (x y : Nat), Hid (rSlice 1 rU32 wr (LT wr.heap.size) [p] (limbsOf x)) ∧ Hid (rSlice 1 rU32 wr (LT wr.heap.size) [q] (limbsOf y)) ∧ Hid (Below w.heap.size w wr) ∧ Hid (Nat.gcd x y = Nat.gcd A B) ∧ Hid ((limbsOf x).length ≤ 500000000000) ∧ Hid ((limbsOf y).length ≤ 500000000000)) (fun _ q _ _ wr => slVal wr q)
  case atStart => exact ⟨A, B, HU2, HV2, HB, rfl, HLa, HLb⟩
  case round =>
    clear HU2 HV2 HB HU H1 H2
    obtain ⟨x, y, HX, HY, HB, HG, HLx, HLy⟩ := hrel
    have hy := HY.out
    have hms := hid (slVal_of hy)
    rw [limbsVal_limbsOf] at hms
    obtain ⟨qa, qc, rfl, q1, q2, q3, q4⟩ := u32s_open hy
    clear q4 hy
    by_cases h0 : 0 < y
    · have hyl := limbsOf_len_pos h0
      have HD := hid (divide_any _ _ _ x y _ (fun _ h => h) (Nat.le_trans HLx.out (by decide)) h0 HX.out HY.out)
      have HLr := hid (Nat.le_trans (limbsOf_mono (Nat.le_of_lt (Nat.mod_lt x h0))) HLy.out)
      have HGr := hid (show Nat.gcd y (x % y) = Nat.gcd A B by rw [← HG.out, Nat.gcd_comm y, ← Nat.gcd_rec, Nat.gcd_comm])
      have H0 := hid (Nat.mod_lt x h0)
      generalize x % y = z at *
      obtain ⟨n, hn⟩ : ∃ n, n = (limbsOf y).length := ⟨_, rfl⟩
      rw [← hn] at HD HY q1 hms hyl ⊢
      clear HLx HG HX h0 hn
      go_wp2_with fail
      refine Calls.mono HD.out ?_
      rintro e w3 ⟨q', r', rfl, hq, hr, hb3⟩
      have HR := hid hr
      have HB3 := hid (HB.out.step hb3)
      have hms3 := hid (slVal_of hr)
      rw [limbsVal_limbsOf] at hms3
      have HY3 := hid ((stays_rSlice stays_rU32).below HY.out hb3 hb3.size)
      clear hq hr
      go_wp2
      go_roundw
      case rel => exact ⟨y, z, HY3, HR, HB3, HGr, HLy, HLr⟩
      case measure =>
        have e1 := hms.out
        have e2 := hms3.out
        have e3 := H0.out
        rw [e1]
        rw [e2]
        exact e3
    have hy0 : y = 0 := by omega
    subst hy0
    rw [limbsOf_zero] at q1 hms ⊢
    have HT := hid (text_any _ _ _ _ (fun _ h => h) (Nat.le_trans HLx.out (by decide)) HX.out)
    have hg := HG.out
    rw [Nat.gcd_zero_right] at hg
    rw [limbsVal_limbsOf, hg] at HT
    go_wp2_with fail
    refine Calls.mono HT.out ?_
    rintro e w4 ⟨rfl, hb4⟩
    go_wp2
    go_ret
    exact ⟨rfl, HB.out.step hb4⟩
end Go.Proofs.YtokmkopihhnggaaDoor
end
section
/- insolvencyref1: common: walked, over the contract of divide. -/
namespace Go.Proofs.YtokmkopihhnggaaDoor
open Go.RowKit
end Go.Proofs.YtokmkopihhnggaaDoor
end
section
/- insolvencyref1: divide: walked. -/
namespace Go.Proofs.YtokmkopihhnggaaDoor
open Go.RowKit
def RNat (w : World) (v : Value) (n : Nat) : Prop := rSlice 1 rU32 w (LT w.heap.size) [v] (limbsOf n)
theorem RNat.below {w w' : World} {v : Value} {n : Nat} (h : RNat w v n) (hb : Below w.heap.size w w') : RNat w' v n := (stays_rSlice stays_rU32).below h hb hb.size
theorem RNat.alloc {w : World} {v : Value} {n : Nat} (h : RNat w v n) (o : Obj) : RNat (w.alloc o) v n := h.below ((Below.refl _ _).alloc (Nat.le_refl _) _)
def NB (k n : Nat) : Prop := n < 256 ^ k
theorem NB.limbs {k n : Nat} (h : NB k n) : (limbsOf n).length ≤ k := Nat.le_trans (limbs_blen _) (natBytes_len_le h)
theorem NB.mono {j k n : Nat} (h : NB j n) (hk : j ≤ k) : NB k n := Nat.lt_of_lt_of_le h (Nat.pow_le_pow_right (by decide) hk)
theorem NB.le {k m n : Nat} (h : NB k n) (hm : m ≤ n) : NB k m := Nat.lt_of_le_of_lt hm h
theorem NB.mul {j k m n : Nat} (h : NB j m) (h' : NB k n) : NB (j + k) (m * n) := pow_mul_lt h h'
theorem NB.add {j m n : Nat} (h : NB j m) (h' : NB j n) : NB (j + 1) (m + n) := by
  unfold NB at *
  rw [Nat.pow_succ]; omega
end Go.Proofs.YtokmkopihhnggaaDoor
end
section
/- insolvencyref1: GCD, reduced: walked. -/
namespace Go.Proofs.YtokmkopihhnggaaDoor
open Go.RowKit
theorem RNat.zero {w : World} {u : Value} (h : RNat w u 0) : ∃ a c, u = .slice a 0 c := by
  obtain ⟨a, c, rfl, _⟩ := u32s_open h
  rw [limbsOf_zero]
  exact ⟨a, c, rfl⟩
end Go.Proofs.YtokmkopihhnggaaDoor
end
section
/- insolvencyref1: reduced: walked. -/
namespace Go.Proofs.YtokmkopihhnggaaDoor
open Go.RowKit
def Blk3 (w : World) (b : Nat) (T : Nat) (x y z : Value) : Prop := w.heap[b]? = some (.cells #[x, y, z] T (0, 0))
theorem Blk3.new (w : World) (T : Nat) (x y z : Value) : Blk3 (w.alloc (.cells #[x, y, z] T)) w.heap.size T x y z := heap_alloc_new w _
theorem Blk3.below {w w' : World} {b T B : Nat} {x y z : Value} (h : Blk3 w b T x y z) (hb : Below B w w') (hB : b < B) : Blk3 w' b T x y z := by
  unfold Blk3 at *; rw [hb.block b hB]; exact h
theorem Blk3.lt {w : World} {b T : Nat} {x y z : Value} (h : Blk3 w b T x y z) : b < w.heap.size := (Array.getElem?_eq_some_iff.1 h).1
theorem Blk3.alloc {w : World} {b T : Nat} {x y z : Value} (h : Blk3 w b T x y z) (o : Obj) : Blk3 (w.alloc o) b T x y z := by
  unfold Blk3 at *; rw [Below.heap_alloc _ _ _ (Blk3.lt h)]; exact h
theorem Blk3.cells {w : World} {b T : Nat} {x y z : Value} (h : Blk3 w b T x y z) :
    w.cell? ⟨b, 0, none⟩ = some x ∧ w.cell? ⟨b, 1, none⟩ = some y ∧ w.cell? ⟨b, 2, none⟩ = some z ∧ (∀ j, w.frozen? ⟨b, j, none⟩ = false) := by
  unfold Blk3 at h
  simp [World.cell?, World.frozen?, h]
theorem Blk3.set0 {w : World} {b T : Nat} {x y z : Value} (h : Blk3 w b T x y z) (v : Value) : Blk3 (w.setCell ⟨b, 0, none⟩ v) b T v y z := by
  unfold Blk3 at *; rw [heap_setCell_same w b 0 _ T v h]; rfl
theorem Blk3.set1 {w : World} {b T : Nat} {x y z : Value} (h : Blk3 w b T x y z) (v : Value) : Blk3 (w.setCell ⟨b, 1, none⟩ v) b T x v z := by
  unfold Blk3 at *; rw [heap_setCell_same w b 1 _ T v h]; rfl
theorem Blk3.set2 {w : World} {b T : Nat} {x y z : Value} (h : Blk3 w b T x y z) (v : Value) : Blk3 (w.setCell ⟨b, 2, none⟩ v) b T x y v := by
  unfold Blk3 at *; rw [heap_setCell_same w b 2 _ T v h]; rfl
theorem Blk3.other {w : World} {b b' T : Nat} {x y z : Value} (h : Blk3 w b T x y z) (hne : b' ≠ b) (p : Nat) (v : Value) : Blk3 (w.setCell ⟨b', p, none⟩ v) b T x y z := by
  unfold Blk3 at *; rw [Below.heap_setCell _ _ _ _ (fun e => hne e.symm)]; exact h
theorem Blk3.stored {X : World} {b T : Nat} {x y z : Value} (h : Blk3 X b T x y z) (x' y' z' : Value) :
    (X.setCell ⟨b, 0, none⟩ x').cell? ⟨b, 0, none⟩ = some x' ∧ ((X.setCell ⟨b, 0, none⟩ x').setCell ⟨b, 1, none⟩ y').cell? ⟨b, 1, none⟩ = some y' ∧
    (((X.setCell ⟨b, 0, none⟩ x').setCell ⟨b, 1, none⟩ y').setCell ⟨b, 2, none⟩ z').cell? ⟨b, 2, none⟩ = some z' ∧ Blk3 (((X.setCell ⟨b, 0, none⟩ x').setCell ⟨b, 1, none⟩ y').setCell ⟨b, 2, none⟩ z') b T x' y' z' :=
  ⟨(h.set0 x').cells.1, ((h.set0 x').set1 y').cells.2.1, (((h.set0 x').set1 y').set2 z').cells.2.2.1, ((h.set0 x').set1 y').set2 z'⟩
theorem ret_blk3 {P : Program} {fn : Func} {R : Ending → World → Prop} {a : Act} {W : World} {b T : Nat} {x y z : Value} (h : Blk3 W b T x y z)
    (hres : ∀ W', W'.cell? ⟨b, 0, none⟩ = some x → W'.cell? ⟨b, 1, none⟩ = some y → W'.cell? ⟨b, 2, none⟩ = some z → (results fn a.tmps).run P W' = .ok (.agg #[x, y, z]) W') (hd : a.defers = []) (hR : R (.returned (.agg #[x, y, z])) W) : bodyPost P fn R .ret a W :=
  bodyPost_ret (hres W h.cells.1 h.cells.2.1 h.cells.2.2.1) hd hR
end Go.Proofs.YtokmkopihhnggaaDoor
end
section
/- Boxes of rationals in a call's own blocks. -/
namespace Go.Proofs.YtokmkopihhnggaaDoor
open Go.RowKit
theorem RNat.drew {w : World} {v : Value} {n : Nat} (h : RNat w v n) : RNat w.drew v n := h
def Bx (w : World) (b : Nat) (r : GRat) : Prop := Blk3 w b 28 (.bool r.neg) (.string r.num) (.string r.den)
theorem Bx.below {w w' : World} {b : Nat} {r : GRat} (h : Bx w b r) (hb : Below w.heap.size w w') : Bx w' b r := Blk3.below h hb (Blk3.lt h)
theorem Bx.new (w : World) (r : GRat) : Bx (w.alloc (.cells #[.bool r.neg, .string r.num, .string r.den] 28)) w.heap.size r := Blk3.new w _ _ _ _
theorem Bx.alloc {w : World} {b : Nat} {r : GRat} (h : Bx w b r) (o : Obj) : Bx (w.alloc o) b r := Blk3.alloc h o
theorem Bx.drew {w : World} {b : Nat} {r : GRat} (h : Bx w b r) : Bx w.drew b r := h
theorem Bx.facts {w : World} {b : Nat} {r : GRat} (h : Bx w b r) :
    w.cell? ⟨b, 0, none⟩ = some (.bool r.neg) ∧ w.cell? ⟨b, 1, none⟩ = some (.string r.num) ∧ w.cell? ⟨b, 2, none⟩ = some (.string r.den) ∧ (∀ j, w.frozen? ⟨b, j, none⟩ = false) ∧ b < w.heap.size :=
  ⟨h.cells.1, h.cells.2.1, h.cells.2.2.1, h.cells.2.2.2, Blk3.lt h⟩
def gZ : GRat := ⟨false, { data := #[] }, { data := #[] }⟩
theorem gZ_enc : gZ = enc 0 := by rw [enc_zero]; rfl
def Bx3 (w w1 : World) (r1 r2 : GRat) : Prop := Bx w1 w.heap.size r1 ∧ Bx w1 (w.heap.size + 1) r2 ∧ Bx w1 (w.heap.size + 1 + 1) gZ ∧ Below w.heap.size w w1
theorem Bx3.new (w : World) (r1 r2 : GRat) : Bx3 w (((w.alloc (.cells #[.bool r1.neg, .string r1.num, .string r1.den] 28)).alloc (.cells #[.bool r2.neg, .string r2.num, .string r2.den] 28)).alloc (.cells #[.bool false, .string { data := #[] }, .string { data := #[] }] 28)) r1 r2 := by
  have e1 : (w.alloc (.cells #[.bool r1.neg, .string r1.num, .string r1.den] 28)).heap.size = w.heap.size + 1 := by simp
  have h2 := Bx.new (w.alloc (.cells #[.bool r1.neg, .string r1.num, .string r1.den] 28)) r2
  rw [e1] at h2
  have e2 : ((w.alloc (.cells #[.bool r1.neg, .string r1.num, .string r1.den] 28)).alloc (.cells #[.bool r2.neg, .string r2.num, .string r2.den] 28)).heap.size = w.heap.size + 1 + 1 := by simp
  have h3 := Bx.new ((w.alloc (.cells #[.bool r1.neg, .string r1.num, .string r1.den] 28)).alloc (.cells #[.bool r2.neg, .string r2.num, .string r2.den] 28)) gZ
  rw [e2] at h3
  exact ⟨((Bx.new w r1).alloc _).alloc _, h2.alloc _, h3, (((Below.refl _ _).alloc (Nat.le_refl _) _).alloc (by simp) _).alloc (by simp; omega) _⟩
theorem Bx3.next {w w1 w2 : World} {r1 r2 : GRat} (h : Bx3 w w1 r1 r2) (hb : Below w1.heap.size w1 w2) : Bx3 w w2 r1 r2 :=
  ⟨h.1.below hb, h.2.1.below hb, h.2.2.1.below hb, h.2.2.2.step hb⟩
theorem Bx3.ret {w w1 : World} {r1 r2 : GRat} (h : Bx3 w w1 r1 r2) (q : GRat) :
    Blk3 (((w1.setCell ⟨w.heap.size + 1 + 1, 0, none⟩ (.bool q.neg)).setCell ⟨w.heap.size + 1 + 1, 1, none⟩ (.string q.num)).setCell ⟨w.heap.size + 1 + 1, 2, none⟩ (.string q.den)) (w.heap.size + 1 + 1) 28 (.bool q.neg) (.string q.num) (.string q.den) ∧
    Below w.heap.size w (((w1.setCell ⟨w.heap.size + 1 + 1, 0, none⟩ (.bool q.neg)).setCell ⟨w.heap.size + 1 + 1, 1, none⟩ (.string q.num)).setCell ⟨w.heap.size + 1 + 1, 2, none⟩ (.string q.den)) :=
  ⟨(Blk3.stored h.2.2.1 _ _ _).2.2.2, ((h.2.2.2.setCell (by simp; omega) _).setCell (by simp; omega) _).setCell (by simp; omega) _⟩
theorem Bx3.drew {w w1 : World} {r1 r2 : GRat} (h : Bx3 w w1 r1 r2) : Bx3 w w1.drew r1 r2 := ⟨h.1.drew, h.2.1.drew, h.2.2.1.drew, Below.drew h.2.2.2⟩
def Bx2 (w w1 : World) (r1 r2 : GRat) : Prop := Bx w1 w.heap.size r1 ∧ Bx w1 (w.heap.size + 1) r2 ∧ Below w.heap.size w w1
theorem Bx2.new (w : World) (r1 r2 : GRat) : Bx2 w ((w.alloc (.cells #[.bool r1.neg, .string r1.num, .string r1.den] 28)).alloc (.cells #[.bool r2.neg, .string r2.num, .string r2.den] 28)) r1 r2 := by
  have e1 : (w.alloc (.cells #[.bool r1.neg, .string r1.num, .string r1.den] 28)).heap.size = w.heap.size + 1 := by simp
  have h2 := Bx.new (w.alloc (.cells #[.bool r1.neg, .string r1.num, .string r1.den] 28)) r2
  rw [e1] at h2
  exact ⟨(Bx.new w r1).alloc _, h2, ((Below.refl _ _).alloc (Nat.le_refl _) _).alloc (by simp) _⟩
theorem Bx2.next {w w1 w2 : World} {r1 r2 : GRat} (h : Bx2 w w1 r1 r2) (hb : Below w1.heap.size w1 w2) : Bx2 w w2 r1 r2 :=
  ⟨h.1.below hb, h.2.1.below hb, h.2.2.step hb⟩
theorem Bx2.ret {w w1 : World} {r1 r2 : GRat} (h : Bx2 w w1 r1 r2) (q : GRat) :
    Blk3 (((w1.setCell ⟨w.heap.size + 1, 0, none⟩ (.bool q.neg)).setCell ⟨w.heap.size + 1, 1, none⟩ (.string q.num)).setCell ⟨w.heap.size + 1, 2, none⟩ (.string q.den)) (w.heap.size + 1) 28 (.bool q.neg) (.string q.num) (.string q.den) ∧
    Below w.heap.size w (((w1.setCell ⟨w.heap.size + 1, 0, none⟩ (.bool q.neg)).setCell ⟨w.heap.size + 1, 1, none⟩ (.string q.num)).setCell ⟨w.heap.size + 1, 2, none⟩ (.string q.den)) :=
  ⟨(Blk3.stored h.2.1 _ _ _).2.2.2, ((h.2.2.setCell (by simp) _).setCell (by simp) _).setCell (by simp) _⟩
theorem Bx2.drew {w w1 : World} {r1 r2 : GRat} (h : Bx2 w w1 r1 r2) : Bx2 w w1.drew r1 r2 := ⟨h.1.drew, h.2.1.drew, Below.drew h.2.2⟩
def Bx1 (w w1 : World) : Prop := Bx w1 w.heap.size gZ ∧ Below w.heap.size w w1
theorem Bx1.new (w : World) : Bx1 w (w.alloc (.cells #[.bool false, .string { data := #[] }, .string { data := #[] }] 28)) := ⟨Bx.new w gZ, (Below.refl _ _).alloc (Nat.le_refl _) _⟩
theorem Bx1.next {w w1 w2 : World} (h : Bx1 w w1) (hb : Below w1.heap.size w1 w2) : Bx1 w w2 := ⟨h.1.below hb, h.2.step hb⟩
theorem Bx1.ret {w w1 : World} (h : Bx1 w w1) (q : GRat) :
    Blk3 (((w1.setCell ⟨w.heap.size, 0, none⟩ (.bool q.neg)).setCell ⟨w.heap.size, 1, none⟩ (.string q.num)).setCell ⟨w.heap.size, 2, none⟩ (.string q.den)) w.heap.size 28 (.bool q.neg) (.string q.num) (.string q.den) ∧
    Below w.heap.size w (((w1.setCell ⟨w.heap.size, 0, none⟩ (.bool q.neg)).setCell ⟨w.heap.size, 1, none⟩ (.string q.num)).setCell ⟨w.heap.size, 2, none⟩ (.string q.den)) :=
  ⟨(Blk3.stored h.1 _ _ _).2.2.2, ((h.2.setCell (Nat.le_refl _) _).setCell (Nat.le_refl _) _).setCell (Nat.le_refl _) _⟩
end Go.Proofs.YtokmkopihhnggaaDoor
end
section
/- insolvencyref1: Plus: walked. -/
namespace Go.Proofs.YtokmkopihhnggaaDoor
open Go.RowKit
attribute [local go_sem ↓] Go.wp_at_zero Go.wp_at_succ
end Go.Proofs.YtokmkopihhnggaaDoor
end
section
/- Refunds, rates and what is kept, over rational numbers: plain. -/
namespace Go.Proofs.YtokmkopihhnggaaDoor
def qpos (q : Rat) : Rat := if q < 0 then 0 else q
def gS (l : List Rat) : Nat → Rat
  | 0 => 0
  | k + 1 => gS l k + qpos (l.getD k 0)
def gO (w : Rat) (l : List Rat) (k : Nat) : Rat := qpos (gS l k - qpos w)
def gR (w : Rat) (l : List Rat) : List Rat := (List.range l.length).map fun k => gO w l (k + 1) - gO w l k
theorem qpos_ge (q : Rat) : 0 ≤ qpos q := by unfold qpos; grind
theorem gS_step (l : List Rat) (k : Nat) : gS l (k + 1) = gS l k + qpos (l.getD k 0) := rfl
theorem gO_zero (w : Rat) (l : List Rat) : gO w l 0 = 0 := by
  have := qpos_ge w
  unfold gO qpos gS; unfold qpos at this; grind
def NonNeg (l : List Rat) : Prop := ∀ x ∈ l, 0 ≤ x
theorem NonNeg.get {l : List Rat} (h : NonNeg l) (k : Nat) : 0 ≤ l.getD k 0 := by
  rcases Nat.lt_or_ge k l.length with h1 | h1
  · simp only [List.getD, List.getElem?_eq_getElem h1, Option.getD_some]
    exact h _ (List.getElem_mem h1)
  simp [List.getD, List.getElem?_eq_none h1]
end Go.Proofs.YtokmkopihhnggaaDoor
end
section
/- Refunds grow with the rates; amounts of the laws: plain. -/
namespace Go.Proofs.YtokmkopihhnggaaDoor
end Go.Proofs.YtokmkopihhnggaaDoor
end
section
/- insolvencyref1: Minus, Less, Lesser, Greater: walked. -/
namespace Go.Proofs.YtokmkopihhnggaaDoor
open Go.RowKit
attribute [local go_sem ↓] Go.wp_at_zero Go.wp_at_succ
theorem gOpp_enc (q : Rat) : gOpp (enc q) = enc (-q) := enc_opp q
theorem sgnZ_enc (q : Rat) : sgnZ (enc q) = qSgn q := gSgn_enc q
def qmax (a b : Rat) : Rat := if a < b then b else a
end Go.Proofs.YtokmkopihhnggaaDoor
end
section
/- rational: Valid: walked. -/
namespace Go.Proofs.YtokmkopihhnggaaDoor
open Go.RowKit
theorem natStr_one : natStr 1 = { data := #[1] } := by
  unfold natStr; rw [natBytes_pos (by decide)]; simp [natBytes_zero]
theorem str_ne {s t : ByteArray} (h : s ≠ t) : (s.toList == t.toList) = false := by
  rw [beq_eq_false_iff_ne]
  intro e
  rw [ByteArray.toList_eq, ByteArray.toList_eq] at e
  exact h (ByteArray.ext (Array.ext' e))
theorem str_ne1 {s : ByteArray} (h : s ≠ { data := #[1] }) : (s.toList == [1]) = false := by
  rw [beq_eq_false_iff_ne]
  intro e
  rw [ByteArray.toList_eq] at e
  exact h (ByteArray.ext (Array.ext' e))
theorem gValid_1 {r : GRat} (c1 : natStr (strVal r.num) ≠ r.num) : gValid r = false := by simp [gValid, c1]
theorem gValid_2 {r : GRat} (c2 : natStr (strVal r.den) ≠ r.den) : gValid r = false := by simp [gValid, c2]
theorem gValid_3 {r : GRat} (c1 : natStr (strVal r.num) = r.num) (c2 : natStr (strVal r.den) = r.den) (h : r.num.size = 0) : gValid r = (!r.neg && decide (r.den.size = 0)) := by simp [gValid, c1, c2, h]
theorem gValid_4 {r : GRat} (c1 : natStr (strVal r.num) = r.num) (c2 : natStr (strVal r.den) = r.den) (h : ¬ r.num.size = 0) : gValid r = (decide (r.den.size = 0) || (decide (strVal r.den ≠ 1) && decide (Nat.gcd (strVal r.num) (strVal r.den) = 1))) := by simp [gValid, c1, c2, h]
theorem qValid_1 (r : GRat) (w : World) (h1 : r.num.size ≤ 500000000000) (c1 : natStr (strVal r.num) ≠ r.num) :
    Calls Tryd.prog 37 #[vRat r] w fun e w' => e = .returned (.bool false) ∧ Below w.heap.size w w' := by
  have N1 := hid (fun w => normalize_any r.num w (by unfold maxLen; omega))
  obtain ⟨neg, num, den⟩ := r
  simp only at *
  generalize natStr (strVal num) = s at *
  have e1 := str_ne c1
  unfold vRat
  simp only
  clear c1
  go_enter Tryd.func37, Tryd.ntmps37
  go_wp2
  go_quiet ((go_at_call 23; exact Calls.quiet_of_same ((N1.out _).mono fun e w' h => ⟨h.1, h.2.symm⟩)))
  go_wp2
  go_ret
  exact ⟨rfl, Below.drewN ((Below.refl _ _).alloc (Nat.le_refl _) _) _⟩
theorem qValid_2 (r : GRat) (w : World) (h1 : r.num.size ≤ 500000000000) (h2 : r.den.size ≤ 500000000000) (c1 : natStr (strVal r.num) = r.num) (c2 : natStr (strVal r.den) ≠ r.den) :
    Calls Tryd.prog 37 #[vRat r] w fun e w' => e = .returned (.bool false) ∧ Below w.heap.size w w' := by
  have N1 := hid (fun w => normalize_any r.num w (by unfold maxLen; omega))
  have N2 := hid (fun w => normalize_any r.den w (by unfold maxLen; omega))
  rw [c1] at N1
  obtain ⟨neg, num, den⟩ := r
  simp only at *
  generalize natStr (strVal den) = s at *
  have e1 := str_ne c2
  unfold vRat
  simp only
  clear c1 c2
  go_enter Tryd.func37, Tryd.ntmps37
  go_wp2
  go_quiet ((first
    | (go_at_call_of 23 (Value.string num); exact Calls.quiet_of_same ((N1.out _).mono fun e w' h => ⟨h.1, h.2.symm⟩))
    | (go_at_call_of 23 (Value.string den); exact Calls.quiet_of_same ((N2.out _).mono fun e w' h => ⟨h.1, h.2.symm⟩))))
  go_wp2
  go_ret
  exact ⟨rfl, Below.drewN ((Below.refl _ _).alloc (Nat.le_refl _) _) _⟩
theorem qValid_3 (r : GRat) (w : World) (h1 : r.num.size ≤ 500000000000) (h2 : r.den.size ≤ 500000000000) (c1 : natStr (strVal r.num) = r.num) (c2 : natStr (strVal r.den) = r.den) (h : r.num.size = 0) :
    Calls Tryd.prog 37 #[vRat r] w fun e w' => e = .returned (.bool (!r.neg && decide (r.den.size = 0))) ∧ Below w.heap.size w w' := by
  have N1 := hid (fun w => normalize_any r.num w (by unfold maxLen; omega))
  have N2 := hid (fun w => normalize_any r.den w (by unfold maxLen; omega))
  rw [c1] at N1
  rw [c2] at N2
  obtain ⟨neg, num, den⟩ := r
  simp only at *
  have hz : num = { data := #[] } := ByteArray.ext (Array.eq_empty_of_size_eq_zero h)
  subst hz
  unfold vRat
  simp only
  clear c1 c2 h h1
  cases neg
  · by_cases hd : den.size = 0
    · have hz : den = { data := #[] } := ByteArray.ext (Array.eq_empty_of_size_eq_zero hd)
      subst hz
      clear hd h2
      go_enter Tryd.func37, Tryd.ntmps37
      go_wp2
      go_quiet ((go_at_call 23; exact Calls.quiet_of_same ((N1.out _).mono fun e w' h => ⟨h.1, h.2.symm⟩)))
      go_wp2
      go_ret
      exact ⟨rfl, Below.drewN ((Below.refl _ _).alloc (Nat.le_refl _) _) _⟩
    have hne := num_ne hd
    have HR := hid (show (!false && decide (den.size = 0)) = false by simp [hd])
    rw [HR.out]
    clear hd h2
    go_enter Tryd.func37, Tryd.ntmps37
    go_wp2
    go_quiet ((first
      | (go_at_call_of 23 (Value.string { data := #[] }); exact Calls.quiet_of_same ((N1.out _).mono fun e w' h => ⟨h.1, h.2.symm⟩))
      | (go_at_call_of 23 (Value.string den); exact Calls.quiet_of_same ((N2.out _).mono fun e w' h => ⟨h.1, h.2.symm⟩))))
    go_wp2
    go_ret
    exact ⟨rfl, Below.drewN ((Below.refl _ _).alloc (Nat.le_refl _) _) _⟩
  have HR := hid (show (!true && decide (den.size = 0)) = false by simp)
  rw [HR.out]
  clear h2
  go_enter Tryd.func37, Tryd.ntmps37
  go_wp2
  go_quiet ((first
    | (go_at_call_of 23 (Value.string { data := #[] }); exact Calls.quiet_of_same ((N1.out _).mono fun e w' h => ⟨h.1, h.2.symm⟩))
    | (go_at_call_of 23 (Value.string den); exact Calls.quiet_of_same ((N2.out _).mono fun e w' h => ⟨h.1, h.2.symm⟩))))
  go_wp2
  go_ret
  exact ⟨rfl, Below.drewN ((Below.refl _ _).alloc (Nat.le_refl _) _) _⟩
end Go.Proofs.YtokmkopihhnggaaDoor
end
section
/- natural: Compare: walked. -/
namespace Go.Proofs.YtokmkopihhnggaaDoor
open Go.RowKit
theorem compareBytes_eq : ∀ (l r : List UInt8), l.length = r.length → Lib.compareBytes l r = natCmp (bytesVal l) (bytesVal r)
  | [], [], _ => by simp [Lib.compareBytes, natCmp, bytesVal]
  | [], _ :: _, h => by simp at h
  | _ :: _, [], h => by simp at h
  | a :: l, b :: r, h => by
    have hl : l.length = r.length := by simpa using h
    have ih := compareBytes_eq l r hl
    have h1 := bytesVal_lt l
    have h2 := bytesVal_lt r
    simp only [Lib.compareBytes]
    rw [ih, bytesVal_cons, bytesVal_cons, hl]
    rw [hl] at h1
    have ha : (a < b) ↔ a.toNat < b.toNat := UInt8.lt_iff_toNat_lt
    have hb : (b < a) ↔ b.toNat < a.toNat := UInt8.lt_iff_toNat_lt
    generalize 256 ^ r.length = P at *
    generalize bytesVal l = x at *
    generalize bytesVal r = y at *
    by_cases c1 : a.toNat < b.toNat
    · rw [if_pos (ha.2 c1)]
      have := Nat.mul_le_mul_right P (show a.toNat + 1 ≤ b.toNat from c1)
      rw [Nat.add_mul] at this
      unfold natCmp
      rw [if_pos (by omega)]
    rw [if_neg (fun h => c1 (ha.1 h))]
    by_cases c2 : b.toNat < a.toNat
    · rw [if_pos (hb.2 c2)]
      have := Nat.mul_le_mul_right P (show b.toNat + 1 ≤ a.toNat from c2)
      rw [Nat.add_mul] at this
      unfold natCmp
      rw [if_neg (by omega), if_pos (by omega)]
    rw [if_neg (fun h => c2 (hb.1 h))]
    have : a.toNat = b.toNat := by omega
    rw [this]
    generalize b.toNat * P = q
    unfold natCmp
    simp only [Nat.add_lt_add_iff_left]
theorem compare_natStr {x y : Nat} (h : (natStr x).size = (natStr y).size) : Lib.compareBytes (natStr x).data.toList (natStr y).data.toList = natCmp x y := by
  rw [natStr_size, natStr_size] at h
  have := compareBytes_eq (natBytes x) (natBytes y) h
  rw [bytesVal_natBytes, bytesVal_natBytes] at this
  simpa [natStr] using this
theorem natBytes_mono {x y : Nat} (h : x ≤ y) : (natBytes x).length ≤ (natBytes y).length := natBytes_len_le (Nat.lt_of_le_of_lt h (natBytes_lt y))
theorem sign_natStr {x y : Nat} (h : (natStr x).size ≠ (natStr y).size) : signZ (((natStr x).size : Int) - ((natStr y).size : Int)) = natCmp x y := by
  rw [natStr_size, natStr_size] at *
  unfold signZ natCmp
  by_cases c : x < y
  · have := natBytes_mono (Nat.le_of_lt c)
    rw [if_pos c, if_pos (by omega)]
  have := natBytes_mono (Nat.le_of_not_lt c)
  rw [if_neg c, if_neg (by omega)]
  by_cases d : y < x
  · rw [if_pos d]; try rw [if_pos (by omega)]
  exfalso
  have : x = y := by omega
  subst this
  exact h rfl
theorem natStr_strVal_size (s : ByteArray) : (natStr (strVal s)).size ≤ s.size := by rw [natStr_size]; exact natBytes_len_le (strVal_lt s)
set_option maxRecDepth 100000 in
theorem Compare_any (a b : ByteArray) (w : World) (ha : a.size ≤ maxLen) (hb : b.size ≤ maxLen) :
    Calls Tryd.prog 50 #[.string a, .string b] w fun e w' => e = .returned (.int .i64 (natCmp (strVal a) (strVal b))) ∧ w = w' := by
  have H1 := hid (normalize_any a w ha)
  have H2 := hid (normalize_any b w hb)
  have sa := natStr_strVal_size a
  have sb := natStr_strVal_size b
  have hmx : (maxLen : Nat) ≤ 9223372036854775807 := by unfold maxLen; omega
  have hsa : (natStr (strVal a)).size ≤ 9223372036854775807 := by omega
  have hsb : (natStr (strVal b)).size ≤ 9223372036854775807 := by omega
  by_cases h : (natStr (strVal a)).size = (natStr (strVal b)).size
  · have HC := hid (Tryd.strings_Compare (natStr (strVal a)) (natStr (strVal b)) w)
    rw [compare_natStr h] at HC
    generalize natCmp (strVal a) (strVal b) = c at *
    generalize natStr (strVal a) = x at *
    generalize natStr (strVal b) = y at *
    have hxy : ¬ ((x.size : Int) ≠ (y.size : Int)) := by omega
    clear sa sb ha hb hmx
    go_enter Tryd.func50, Tryd.ntmps50
    go_wp2_with fail
    refine Calls.mono H1.out ?_
    rintro e w1 ⟨rfl, rfl⟩
    go_wp2_with fail
    refine Calls.mono H2.out ?_
    rintro e w1 ⟨rfl, rfl⟩
    go_wp2_with fail
    refine Calls.mono HC.out ?_
    rintro e w1 ⟨rfl, rfl⟩
    go_wp2
    go_ret
    exact ⟨rfl, rfl⟩
  have HC := hid (sign_any (((natStr (strVal a)).size : Int) - ((natStr (strVal b)).size : Int)) w)
  rw [sign_natStr h] at HC
  generalize natCmp (strVal a) (strVal b) = c at *
  generalize natStr (strVal a) = x at *
  generalize natStr (strVal b) = y at *
  have hxy : ((x.size : Int) ≠ (y.size : Int)) := by omega
  clear sa sb ha hb hmx h
  go_enter Tryd.func50, Tryd.ntmps50
  go_wp2_with fail
  refine Calls.mono H1.out ?_
  rintro e w1 ⟨rfl, rfl⟩
  go_wp2_with fail
  refine Calls.mono H2.out ?_
  rintro e w1 ⟨rfl, rfl⟩
  go_wp2_with fail
  refine Calls.mono HC.out ?_
  rintro e w1 ⟨rfl, rfl⟩
  go_wp2
  go_ret
  exact ⟨rfl, rfl⟩
end Go.Proofs.YtokmkopihhnggaaDoor
end
section
/- rational: Valid, clean: walked. -/
namespace Go.Proofs.YtokmkopihhnggaaDoor
open Go.RowKit
theorem natStr_ne1 {n : Nat} (h : n ≠ 1) : natStr n ≠ { data := #[1] } := by
  intro e; rw [← natStr_one] at e; exact h (natStr_inj e)
theorem qValid_4 (r : GRat) (w : World) (h1 : r.num.size ≤ 500000000000) (h2 : r.den.size ≤ 500000000000) (c1 : natStr (strVal r.num) = r.num) (c2 : natStr (strVal r.den) = r.den) (h : ¬ r.num.size = 0) :
    Calls Tryd.prog 37 #[vRat r] w fun e w' => e = .returned (.bool (decide (r.den.size = 0) || (decide (strVal r.den ≠ 1) && decide (Nat.gcd (strVal r.num) (strVal r.den) = 1)))) ∧ Below w.heap.size w w' := by
  have N1 := hid (fun w => normalize_any r.num w (by unfold maxLen; omega))
  have N2 := hid (fun w => normalize_any r.den w (by unfold maxLen; omega))
  rw [c1] at N1
  rw [c2] at N2
  have G := hid (fun w => GCD_any r.num r.den w h1 h2)
  obtain ⟨neg, num, den⟩ := r
  simp only at *
  have hne := num_ne h
  unfold vRat
  simp only
  by_cases hd : den.size = 0
  · have hz : den = { data := #[] } := ByteArray.ext (Array.eq_empty_of_size_eq_zero hd)
    subst hz
    clear hd h2 c1 c2 h h1 G
    go_enter Tryd.func37, Tryd.ntmps37
    go_wp2
    go_quiet ((first
      | (go_at_call_of 23 (Value.string num); exact Calls.quiet_of_same ((N1.out _).mono fun e w' h => ⟨h.1, h.2.symm⟩))
      | (go_at_call_of 23 (Value.string { data := #[] }); exact Calls.quiet_of_same ((N2.out _).mono fun e w' h => ⟨h.1, h.2.symm⟩))))
    go_wp2
    go_ret
    exact ⟨rfl, Below.drewN ((Below.refl _ _).alloc (Nat.le_refl _) _) _⟩
  have hne2 := num_ne hd
  by_cases ho : strVal den = 1
  · rw [ho, natStr_one] at c2
    subst c2
    have HR := hid (show (decide (({ data := #[1] } : ByteArray).size = 0) || (decide (strVal { data := #[1] } ≠ 1) && decide (Nat.gcd (strVal num) (strVal { data := #[1] }) = 1))) = false by rw [ho]; simp only [ne_eq, not_true, decide_false, Bool.false_and, Bool.or_false]; exact decide_eq_false hd)
    rw [HR.out]
    clear hd h2 c1 h h1 G ho hne2
    go_enter Tryd.func37, Tryd.ntmps37
    go_wp2
    go_quiet ((first
      | (go_at_call_of 23 (Value.string num); exact Calls.quiet_of_same ((N1.out _).mono fun e w' h => ⟨h.1, h.2.symm⟩))
      | (go_at_call_of 23 (Value.string { data := #[1] }); exact Calls.quiet_of_same ((N2.out _).mono fun e w' h => ⟨h.1, h.2.symm⟩))))
    go_wp2
    go_ret
    exact ⟨rfl, Below.drewN ((Below.refl _ _).alloc (Nat.le_refl _) _) _⟩
  have hn1 := str_ne1 (s := den) (fun e => ho (by rw [e, ← natStr_one]; exact strVal_natStr 1))
  by_cases hg : Nat.gcd (strVal num) (strVal den) = 1
  · rw [hg, natStr_one] at G
    have HR := hid (show (decide (den.size = 0) || (decide (strVal den ≠ 1) && decide (Nat.gcd (strVal num) (strVal den) = 1))) = true by simp [ho, hg])
    rw [HR.out]
    clear hd h2 c1 c2 h h1 ho hg
    go_enter Tryd.func37, Tryd.ntmps37
    go_wp2
    go_quiet ((first
      | (go_at_call_of 23 (Value.string num); exact Calls.quiet_of_same ((N1.out _).mono fun e w' h => ⟨h.1, h.2.symm⟩))
      | (go_at_call_of 23 (Value.string den); exact Calls.quiet_of_same ((N2.out _).mono fun e w' h => ⟨h.1, h.2.symm⟩))))
    go_wp2_with fail
    refine Calls.mono (G.out _) ?_
    rintro e w1 ⟨rfl, hb1⟩
    go_wp2
    go_ret
    exact ⟨rfl, Below.step (Below.drewN ((Below.refl _ _).alloc (Nat.le_refl _) _) _) hb1⟩
  have hn3 := str_ne1 (natStr_ne1 hg)
  have HR := hid (show (decide (den.size = 0) || (decide (strVal den ≠ 1) && decide (Nat.gcd (strVal num) (strVal den) = 1))) = false by simp [hd, hg])
  rw [HR.out]
  generalize natStr (Nat.gcd (strVal num) (strVal den)) = gs at *
  clear hd h2 c1 c2 h h1 ho hg HR
  go_enter Tryd.func37, Tryd.ntmps37
  go_wp2
  go_quiet ((first
    | (go_at_call_of 23 (Value.string num); exact Calls.quiet_of_same ((N1.out _).mono fun e w' h => ⟨h.1, h.2.symm⟩))
    | (go_at_call_of 23 (Value.string den); exact Calls.quiet_of_same ((N2.out _).mono fun e w' h => ⟨h.1, h.2.symm⟩))))
  go_wp2_with fail
  refine Calls.mono (G.out _) ?_
  rintro e w1 ⟨rfl, hb1⟩
  go_wp2
  go_ret
  exact ⟨rfl, Below.step (Below.drewN ((Below.refl _ _).alloc (Nat.le_refl _) _) _) hb1⟩
theorem qValid_any (r : GRat) (w : World) (h1 : r.num.size ≤ 500000000000) (h2 : r.den.size ≤ 500000000000) :
    Calls Tryd.prog 37 #[vRat r] w fun e w' => e = .returned (.bool (gValid r)) ∧ Below w.heap.size w w' := by
  by_cases c1 : natStr (strVal r.num) = r.num
  · by_cases c2 : natStr (strVal r.den) = r.den
    · by_cases h : r.num.size = 0
      · rw [gValid_3 c1 c2 h]; exact qValid_3 r w h1 h2 c1 c2 h
      rw [gValid_4 c1 c2 h]; exact qValid_4 r w h1 h2 c1 c2 h
    rw [gValid_2 c2]; exact qValid_2 r w h1 h2 c1 c2
  rw [gValid_1 c1]; exact qValid_1 r w h1 c1
theorem qclean_any (r : GRat) (w : World) (h1 : r.num.size ≤ 500000000000) (h2 : r.den.size ≤ 500000000000) :
    Calls Tryd.prog 20 #[vRat r] w fun e w' => e = .returned (vRat (enc (qOf r))) ∧ Below w.heap.size w w' := by
  have V := hid (fun w => qValid_any r w h1 h2)
  have hx0 := hid (Bx2.new w r gZ)
  clear h1 h2
  by_cases h : gValid r = true
  · rw [qOf_ok h]
    rw [h] at V
    unfold vRat
    clear h
    go_enter Tryd.func20, Tryd.ntmps20
    go_wp2_with fail
    refine Calls.mono (V.out _) ?_
    rintro e w1 ⟨rfl, hb1⟩
    have hx1 := hx0.out.next hb1
    obtain ⟨x0, x1, x2, x3, x4⟩ := hx1.1.facts
    obtain ⟨t0, t1, t2, t3, t4⟩ := hx1.2.1.facts
    go_wp2
    refine ret_blk3 (hx1.ret _).1 (fun W' c0 c1 c2 => by simp [results, Tryd.results20, go_sem, c0, c1, c2]) rfl ⟨rfl, (hx1.ret _).2⟩
  have h' : gValid r = false := by simpa using h
  rw [qOf_bad h', ← gZ_enc]
  rw [h'] at V
  unfold vRat
  clear h h'
  go_enter Tryd.func20, Tryd.ntmps20
  go_wp2_with fail
  refine Calls.mono (V.out _) ?_
  rintro e w1 ⟨rfl, hb1⟩
  have hx1 := hx0.out.next hb1
  obtain ⟨t0, t1, t2, t3, t4⟩ := hx1.2.1.facts
  go_wp2
  refine ret_blk3 (hx1.ret gZ).1 (fun W' c0 c1 c2 => by simp [results, Tryd.results20, go_sem, c0, c1, c2]) rfl ⟨rfl, (hx1.ret gZ).2⟩
end Go.Proofs.YtokmkopihhnggaaDoor
end
