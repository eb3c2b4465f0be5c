/- Rational numbers as the program writes them: plain. -/
import Derived.Test.YtgmedcncbpdimaaDoorBaseM
set_option linter.unusedVariables false
set_option linter.unusedSimpArgs false
section
/- Rational numbers as the program writes them: plain. -/
namespace Go.Proofs.YtgmedcncbpdimaaDoor

def sg (b : Bool) (n : Nat) : Int := if b = true then -(n : Int) else (n : Int)
theorem sg_natAbs (b : Bool) (n : Nat) : (sg b n).natAbs = n := by unfold sg; split <;> simp
theorem sg_zero (b : Bool) : sg b 0 = 0 := by unfold sg; split <;> rfl
theorem sg_neg {b : Bool} {n : Nat} (h : n ≠ 0) : (sg b n < 0) = (b = true) := by
  unfold sg; cases b <;> simp <;> omega
theorem sg_of (z : Int) : sg (decide (z < 0)) z.natAbs = z := by unfold sg; split <;> simp_all <;> omega

def bEmpty : ByteArray := { data := #[] }
theorem natStr_e : natStr 0 = bEmpty := by unfold natStr bEmpty; rw [natBytes_zero]
theorem bEmpty_size : bEmpty.size = 0 := rfl
theorem bEmpty_of {s : ByteArray} (h : s.size = 0) : s = bEmpty := ByteArray.ext (Array.eq_empty_of_size_eq_zero h)
theorem natStr_ne {n : Nat} (h : n ≠ 0) : (natStr n).size ≠ 0 := by
  rw [natStr_size, natBytes_pos h]; simp
theorem natStr_size0 {n : Nat} : (natStr n).size = 0 ↔ n = 0 := ⟨fun h => by rcases Nat.eq_zero_or_pos n with h0 | h0; exact h0; exact absurd h (natStr_ne (by omega)), fun h => by subst h; rw [natStr_e]; rfl⟩

/-- A rational number in its valid form. -/
def enc (q : Rat) : GRat := ⟨decide (q.num < 0), natStr q.num.natAbs, if q.den = 1 then bEmpty else natStr q.den⟩

theorem enc_zero : enc 0 = ⟨false, bEmpty, bEmpty⟩ := by
  unfold enc; simp [natStr_e]

theorem enc_inj {p q : Rat} (h : enc p = enc q) : p = q := by
  unfold enc at h
  injection h with h1 h2 h3
  have e2 := natStr_inj h2
  have e1 : p.num = q.num := by
    have := decide_eq_decide.1 h1
    omega
  have e3 : p.den = q.den := by
    split at h3 <;> split at h3
    · omega
    · have h4 := congrArg ByteArray.size h3
      exact absurd h4.symm (natStr_ne q.den_nz)
    · have h4 := congrArg ByteArray.size h3
      exact absurd h4 (natStr_ne p.den_nz)
    · exact natStr_inj h3
  exact Rat.ext e1 e3

open Classical in
/-- The number that is meant; 0 if the form is not valid. -/
noncomputable def qOf (r : GRat) : Rat := if h : ∃ q, enc q = r then h.choose else 0

theorem qOf_enc (q : Rat) : qOf (enc q) = q := by
  unfold qOf
  have h : ∃ p, enc p = enc q := ⟨q, rfl⟩
  rw [dif_pos h]
  exact enc_inj h.choose_spec

/-- The denominator that is meant. -/
def gDen (r : GRat) : Nat := if r.den.size = 0 then 1 else strVal r.den

theorem enc_den (q : Rat) : gDen (enc q) = q.den := by
  unfold gDen enc
  by_cases h : q.den = 1
  · simp [h, bEmpty_size]
  · simp only [h, if_false]
    rw [if_neg (natStr_ne q.den_nz), strVal_natStr]
theorem enc_num (q : Rat) : strVal (enc q).num = q.num.natAbs := by unfold enc; exact strVal_natStr _
theorem enc_num0 (q : Rat) : (enc q).num.size = 0 ↔ q = 0 := by
  unfold enc
  show (natStr _).size = 0 ↔ _
  rw [natStr_size0]
  constructor
  · intro h; exact Rat.num_eq_zero.1 (by omega)
  · intro h; rw [h]; rfl
theorem enc_neg (q : Rat) : (enc q).neg = decide (q.num < 0) := rfl
theorem enc_sg (q : Rat) : sg (enc q).neg (strVal (enc q).num) = q.num := by rw [enc_num, enc_neg]; exact sg_of _

/-- Whether a number is valid. -/
def gValid (r : GRat) : Bool :=
  decide (natStr (strVal r.num) = r.num) && decide (natStr (strVal r.den) = r.den) &&
    (if r.num.size = 0 then !r.neg && decide (r.den.size = 0) else decide (r.den.size = 0) || (decide (strVal r.den ≠ 1) && decide (Nat.gcd (strVal r.num) (strVal r.den) = 1)))

theorem gValid_enc (q : Rat) : gValid (enc q) = true := by
  have h1 : natStr (strVal (enc q).num) = (enc q).num := by rw [enc_num]; rfl
  have h2 : natStr (strVal (enc q).den) = (enc q).den := by
    unfold enc
    by_cases h : q.den = 1
    · simp only [h, if_true]; rw [← natStr_e, strVal_natStr]
    · simp only [h, if_false]; rw [strVal_natStr]
  unfold gValid
  simp only [h1, h2, decide_true, Bool.true_and]
  by_cases h0 : q = 0
  · subst h0; rw [enc_zero]; simp [bEmpty_size]
  · rw [if_neg (fun h => h0 ((enc_num0 q).1 h))]
    by_cases hd : q.den = 1
    · simp [enc, hd, bEmpty_size]
    · have e : (enc q).den = natStr q.den := by simp [enc, hd]
      rw [e, strVal_natStr, enc_num]
      simp [hd]
      right
      exact q.reduced

theorem gValid_of {r : GRat} (h : gValid r = true) : ∃ q, enc q = r := by
  unfold gValid at h
  simp only [Bool.and_eq_true, decide_eq_true_eq] at h
  obtain ⟨⟨h1, h2⟩, h3⟩ := h
  by_cases h0 : r.num.size = 0
  · rw [if_pos h0] at h3
    simp only [Bool.and_eq_true, Bool.not_eq_true', decide_eq_true_eq] at h3
    refine ⟨0, ?_⟩
    rw [enc_zero]
    obtain ⟨n, a, b⟩ := r
    simp only at h0 h3 ⊢
    rw [h3.1, bEmpty_of h0, bEmpty_of h3.2]
  · rw [if_neg h0] at h3
    have hn : strVal r.num ≠ 0 := by
      intro h; rw [h, natStr_e] at h1; rw [← h1] at h0; exact h0 rfl
    simp only [Bool.or_eq_true, Bool.and_eq_true, decide_eq_true_eq] at h3
    by_cases hd : r.den.size = 0
    · refine ⟨⟨sg r.neg (strVal r.num), 1, by decide, by simp [Nat.Coprime]⟩, ?_⟩
      unfold enc
      simp only [sg_natAbs, sg_neg hn, if_true, h1]
      obtain ⟨n, a, b⟩ := r
      simp only at hd ⊢
      rw [bEmpty_of hd]; simp
    · have h4 := h3.resolve_left hd
      have hd0 : strVal r.den ≠ 0 := by
        intro h; rw [h, natStr_e] at h2; rw [← h2] at hd; exact hd rfl
      refine ⟨⟨sg r.neg (strVal r.num), strVal r.den, hd0, by rw [sg_natAbs]; exact h4.2⟩, ?_⟩
      unfold enc
      simp only [sg_natAbs, sg_neg hn, if_neg h4.1, h1, h2]
      obtain ⟨n, a, b⟩ := r
      simp

theorem qOf_bad {r : GRat} (h : gValid r = false) : qOf r = 0 := by
  unfold qOf
  rw [dif_neg]
  rintro ⟨q, rfl⟩
  rw [gValid_enc] at h
  cases h
theorem qOf_ok {r : GRat} (h : gValid r = true) : enc (qOf r) = r := by
  obtain ⟨q, rfl⟩ := gValid_of h
  rw [qOf_enc]

/-- The form of a quotient. -/
theorem enc_mkRat {neg : Bool} {n d : Nat} (hn : n ≠ 0) (hd : d ≠ 0) : enc (mkRat (sg neg n) d) = ⟨neg, natStr (n / Nat.gcd n d), if d / Nat.gcd n d = 1 then bEmpty else natStr (d / Nat.gcd n d)⟩ := by
  have hg : 0 < Nat.gcd n d := Nat.gcd_pos_of_pos_left _ (by omega)
  have hq : n / Nat.gcd n d ≠ 0 := by
    have := Nat.div_pos (Nat.gcd_le_left d (by omega : 0 < n)) hg
    omega
  have e1 : (mkRat (sg neg n) d).num = sg neg (n / Nat.gcd n d) := by
    rw [Rat.num_mkRat, if_neg hd, sg_natAbs, Nat.gcd_comm]
    unfold sg
    split
    · rw [Int.neg_ediv_of_dvd (Int.natCast_dvd_natCast.2 (Nat.gcd_dvd_left n d))]; rfl
    · rfl
  have e2 : (mkRat (sg neg n) d).den = d / Nat.gcd n d := by
    rw [Rat.den_mkRat, if_neg hd, sg_natAbs, Nat.gcd_comm]
  unfold enc
  rw [e1, e2, sg_natAbs]
  simp only [sg_neg hq]
  simp

/-! ### How long numbers are -/

def qB (n : Nat) (q : Rat) : Prop := q.num.natAbs < 256 ^ n ∧ q.den < 256 ^ n
theorem qB.mono {m n : Nat} {q : Rat} (h : qB m q) (hm : m ≤ n) : qB n q :=
  have := Nat.pow_le_pow_right (show 0 < 256 by decide) hm
  ⟨Nat.lt_of_lt_of_le h.1 this, Nat.lt_of_lt_of_le h.2 this⟩
theorem qB_zero : qB 1 0 := by unfold qB; simp
theorem qB_one : qB 1 1 := by unfold qB; simp
theorem qB_mkRat {n : Nat} {z : Int} {d : Nat} (hz : z.natAbs < 256 ^ n) (hd : d < 256 ^ n) (hn : 0 < n) : qB n (mkRat z d) := by
  have h1 : 1 < 256 ^ n := Nat.one_lt_pow (by omega) (by decide)
  by_cases h : d = 0
  · subst h; rw [Rat.mkRat_zero]; exact qB_zero.mono hn
  · constructor
    · rw [Rat.num_mkRat, if_neg h]
      refine Nat.lt_of_le_of_lt ?_ hz
      have hdv : ((d.gcd z.natAbs : Nat) : Int) ∣ z := Int.ofNat_dvd_left.2 (Nat.gcd_dvd_right _ _)
      rw [Int.natAbs_ediv_of_dvd hdv]
      exact Nat.div_le_self _ _
    · rw [Rat.den_mkRat, if_neg h]
      exact Nat.lt_of_le_of_lt (Nat.div_le_self _ _) hd
theorem pow_mul_lt {a b m n : Nat} (ha : a < 256 ^ m) (hb : b < 256 ^ n) : a * b < 256 ^ (m + n) := by
  rw [Nat.pow_add]; exact Nat.mul_lt_mul'' ha hb
theorem qB.pos {n : Nat} {q : Rat} (h : qB n q) : 0 < n := by
  rcases Nat.eq_zero_or_pos n with h0 | h0
  · subst h0; have := h.2; have := q.den_nz; omega
  · exact h0
theorem qB.add {m n : Nat} {p q : Rat} (hp : qB m p) (hq : qB n q) : qB (m + n + 1) (p + q) := by
  rw [Rat.add_def']
  have h1 := pow_mul_lt hp.1 hq.2
  have h2 := pow_mul_lt hq.1 hp.2
  have h3 := pow_mul_lt hp.2 hq.2
  have e : 256 ^ (m + n + 1) = 256 ^ (m + n) * 256 := Nat.pow_succ ..
  rw [Nat.add_comm n m] at h2
  refine qB_mkRat ?_ (by rw [e]; omega) (by omega)
  refine Nat.lt_of_le_of_lt (Int.natAbs_add_le _ _) ?_
  rw [Int.natAbs_mul, Int.natAbs_mul, Int.natAbs_natCast, Int.natAbs_natCast, e]
  omega
theorem qB.mul {m n : Nat} {p q : Rat} (hp : qB m p) (hq : qB n q) : qB (m + n) (p * q) := by
  rw [Rat.mul_def']
  have := hp.pos
  refine qB_mkRat ?_ (pow_mul_lt hp.2 hq.2) (by omega)
  rw [Int.natAbs_mul]
  exact pow_mul_lt hp.1 hq.1
theorem qB.neg {n : Nat} {q : Rat} (h : qB n q) : qB n (-q) := by
  unfold qB
  rw [Rat.neg_num, Rat.neg_den, Int.natAbs_neg]; exact h
theorem qB.sub {m n : Nat} {p q : Rat} (hp : qB m p) (hq : qB n q) : qB (m + n + 1) (p - q) := by
  rw [Rat.sub_eq_add_neg]; exact hp.add hq.neg

theorem strVal_zero_of {s : ByteArray} (h : s.size = 0) : strVal s = 0 := by rw [bEmpty_of h]; rfl

theorem enc_size {n : Nat} {q : Rat} (h : qB n q) : (enc q).num.size ≤ n ∧ (enc q).den.size ≤ n := by
  constructor
  · show (natStr _).size ≤ n
    rw [natStr_size]; exact natBytes_len_le h.1
  · unfold enc
    simp only
    split
    · exact Nat.zero_le _
    · rw [natStr_size]; exact natBytes_len_le h.2

/-- A short form means a short number. -/
theorem qB_qOf {n : Nat} {r : GRat} (hn : 0 < n) (h1 : r.num.size ≤ n) (h2 : r.den.size ≤ n) : qB n (qOf r) := by
  by_cases h : gValid r = true
  · have e := qOf_ok h
    have a := enc_num (qOf r)
    have b := enc_den (qOf r)
    rw [e] at a b
    have p1 := Nat.pow_le_pow_right (show 0 < 256 by decide) h1
    have p2 := Nat.pow_le_pow_right (show 0 < 256 by decide) h2
    have q1 := strVal_lt r.num
    have q2 := strVal_lt r.den
    have h1 : 1 < 256 ^ n := Nat.one_lt_pow (by omega) (by decide)
    refine ⟨by omega, ?_⟩
    rw [← b]
    unfold gDen
    split <;> omega
  · rw [qOf_bad (by simpa using h)]
    exact qB_zero.mono hn

end Go.Proofs.YtgmedcncbpdimaaDoor
end
section
/- Rational numbers: what sums, products and quotients of numerators and denominators are: plain. -/
namespace Go.Proofs.YtgmedcncbpdimaaDoor

def qNeg (q : Rat) : Bool := decide (q.num < 0)
theorem qNeg_sg (q : Rat) : sg (qNeg q) q.num.natAbs = q.num := sg_of _

theorem sg_add_same (b : Bool) (x y : Nat) : sg b x + sg b y = sg b (x + y) := by unfold sg; cases b <;> simp <;> omega
theorem sg_add_lt {b c : Bool} {x y : Nat} (h : b ≠ c) (hxy : x < y) : sg b x + sg c y = sg c (y - x) := by
  unfold sg; cases b <;> cases c <;> simp at * <;> omega
theorem sg_add_ge {b c : Bool} {x y : Nat} (h : b ≠ c) (hxy : y ≤ x) : sg b x + sg c y = sg b (x - y) := by
  unfold sg; cases b <;> cases c <;> simp at * <;> omega
theorem sg_mul_nat (b : Bool) (x d : Nat) : sg b x * (d : Int) = sg b (x * d) := by unfold sg; cases b <;> simp [Int.neg_mul]
theorem sg_mul (b c : Bool) (x y : Nat) : sg b x * sg c y = sg (b != c) (x * y) := by unfold sg; cases b <;> cases c <;> simp [Int.neg_mul, Int.mul_neg]

theorem qadd_sg (p q : Rat) : p + q = mkRat (sg (qNeg p) (p.num.natAbs * q.den) + sg (qNeg q) (q.num.natAbs * p.den)) (p.den * q.den) := by
  rw [Rat.add_def', ← sg_mul_nat, ← sg_mul_nat, qNeg_sg, qNeg_sg]
theorem qadd_sg' {p q : Rat} (h : p.den = q.den) : p + q = mkRat (sg (qNeg p) p.num.natAbs + sg (qNeg q) q.num.natAbs) p.den := by
  rw [Rat.add_def', qNeg_sg, qNeg_sg, ← h, ← Int.add_mul, Rat.mkRat_mul_right p.den_nz]

theorem qadd_same {p q : Rat} (h : qNeg p = qNeg q) : p + q = mkRat (sg (qNeg p) (p.num.natAbs * q.den + q.num.natAbs * p.den)) (p.den * q.den) := by
  rw [qadd_sg, ← h, sg_add_same]
theorem qadd_lt {p q : Rat} (h : qNeg p ≠ qNeg q) (hl : p.num.natAbs * q.den < q.num.natAbs * p.den) : p + q = mkRat (sg (qNeg q) (q.num.natAbs * p.den - p.num.natAbs * q.den)) (p.den * q.den) := by
  rw [qadd_sg, sg_add_lt h hl]
theorem qadd_ge {p q : Rat} (h : qNeg p ≠ qNeg q) (hl : q.num.natAbs * p.den ≤ p.num.natAbs * q.den) : p + q = mkRat (sg (qNeg p) (p.num.natAbs * q.den - q.num.natAbs * p.den)) (p.den * q.den) := by
  rw [qadd_sg, sg_add_ge h hl]
theorem qadd_same' {p q : Rat} (hd : p.den = q.den) (h : qNeg p = qNeg q) : p + q = mkRat (sg (qNeg p) (p.num.natAbs + q.num.natAbs)) p.den := by
  rw [qadd_sg' hd, ← h, sg_add_same]
theorem qadd_lt' {p q : Rat} (hd : p.den = q.den) (h : qNeg p ≠ qNeg q) (hl : p.num.natAbs < q.num.natAbs) : p + q = mkRat (sg (qNeg q) (q.num.natAbs - p.num.natAbs)) p.den := by
  rw [qadd_sg' hd, sg_add_lt h hl]
theorem qadd_ge' {p q : Rat} (hd : p.den = q.den) (h : qNeg p ≠ qNeg q) (hl : q.num.natAbs ≤ p.num.natAbs) : p + q = mkRat (sg (qNeg p) (p.num.natAbs - q.num.natAbs)) p.den := by
  rw [qadd_sg' hd, sg_add_ge h hl]

theorem qmul_sg (p q : Rat) : p * q = mkRat (sg (qNeg p != qNeg q) (p.num.natAbs * q.num.natAbs)) (p.den * q.den) := by
  rw [Rat.mul_def', ← sg_mul, qNeg_sg, qNeg_sg]

theorem qdiv_sg {p q : Rat} (hq : q ≠ 0) : p / q = mkRat (sg (qNeg p != qNeg q) (p.num.natAbs * q.den)) (p.den * q.num.natAbs) := by
  have hn : q.num ≠ 0 := fun h => hq (Rat.num_eq_zero.1 h)
  have hnn : p.den * q.num.natAbs ≠ 0 := Nat.mul_ne_zero p.den_nz (by omega)
  have e : mkRat (sg (qNeg p != qNeg q) (p.num.natAbs * q.den)) (p.den * q.num.natAbs) * q = p := by
    have e1 : q = mkRat (sg (qNeg q) q.num.natAbs) q.den := by rw [qNeg_sg, Rat.mkRat_self]
    have e2 : p = mkRat (sg (qNeg p) p.num.natAbs) p.den := by rw [qNeg_sg, Rat.mkRat_self]
    conv => lhs; rhs; rw [e1]
    conv => rhs; rw [e2]
    rw [Rat.mkRat_mul_mkRat, sg_mul, show ((qNeg p != qNeg q) != qNeg q) = qNeg p by cases qNeg p <;> cases qNeg q <;> rfl]
    rw [show p.num.natAbs * q.den * q.num.natAbs = p.num.natAbs * (q.den * q.num.natAbs) by rw [Nat.mul_assoc], ← sg_mul_nat]
    rw [show p.den * q.num.natAbs * q.den = p.den * (q.den * q.num.natAbs) by rw [Nat.mul_assoc, Nat.mul_comm q.num.natAbs]]
    exact Rat.mkRat_mul_right (Nat.mul_ne_zero q.den_nz (by omega))
  have h2 : p / q * q = p := Rat.div_mul_cancel hq
  have h3 := e.trans h2.symm
  have h4 := congrArg (· * q⁻¹) h3
  simp only [Rat.mul_assoc, Rat.mul_inv_cancel _ hq, Rat.mul_one] at h4
  exact h4.symm

/-! ### Signs and comparison -/

def qCmp (p q : Rat) : Int := if p < q then -1 else if q < p then 1 else 0
def natCmp' (x y : Nat) : Int := if x < y then -1 else if y < x then 1 else 0

theorem qlt_iff (p q : Rat) : p < q ↔ sg (qNeg p) (p.num.natAbs * q.den) < sg (qNeg q) (q.num.natAbs * p.den) := by
  rw [Rat.lt_iff, ← sg_mul_nat, ← sg_mul_nat, qNeg_sg, qNeg_sg]

theorem qNeg_iff (q : Rat) : qNeg q = true ↔ q < 0 := by
  unfold qNeg
  rw [decide_eq_true_iff, Rat.lt_iff]
  simp

theorem qpos_iff (q : Rat) : (qNeg q = false ∧ q ≠ 0) ↔ 0 < q := by
  rw [← Bool.not_eq_true, qNeg_iff, Rat.not_lt]
  constructor
  · rintro ⟨h1, h2⟩; exact Rat.lt_of_le_of_ne h1 (fun h => h2 h.symm)
  · intro h; exact ⟨Rat.le_of_lt h, Rat.ne_of_gt h⟩

def gSgn (r : GRat) : Int := if r.num.size = 0 then 0 else if r.neg = true then -1 else 1
def qSgn (q : Rat) : Int := qCmp q 0
theorem gSgn_enc (q : Rat) : gSgn (enc q) = qSgn q := by
  unfold gSgn qSgn qCmp
  by_cases h0 : q = 0
  · rw [if_pos ((enc_num0 q).2 h0)]; subst h0
    simp [Rat.lt_irrefl]
  · rw [if_neg (fun h => h0 ((enc_num0 q).1 h))]
    show (if qNeg q = true then _ else _) = _
    by_cases h : qNeg q = true
    · rw [if_pos h, if_pos ((qNeg_iff q).1 h)]
    · rw [if_neg h, if_neg (fun h' => h ((qNeg_iff q).2 h')), if_pos ((qpos_iff q).1 ⟨by simpa using h, h0⟩)]

/-- Two numbers of one sign. -/
theorem qCmp_pos {p q : Rat} (hp : qNeg p = false) (hq : qNeg q = false) : qCmp p q = natCmp' (p.num.natAbs * q.den) (q.num.natAbs * p.den) := by
  unfold qCmp natCmp'
  simp only [qlt_iff, hp, hq, sg]
  simp only [Bool.false_eq_true, if_false, Int.ofNat_lt]
theorem qCmp_neg {p q : Rat} (hp : qNeg p = true) (hq : qNeg q = true) : qCmp p q = - natCmp' (p.num.natAbs * q.den) (q.num.natAbs * p.den) := by
  unfold qCmp natCmp'
  simp only [qlt_iff, hp, hq, sg]
  simp only [if_true]
  by_cases h1 : p.num.natAbs * q.den < q.num.natAbs * p.den
  · rw [if_neg (by omega), if_pos (by omega), if_pos h1]; rfl
  · by_cases h2 : q.num.natAbs * p.den < p.num.natAbs * q.den
    · rw [if_pos (by omega), if_neg h1, if_pos h2]
    · rw [if_neg (by omega), if_neg (by omega), if_neg h1, if_neg h2]; rfl
theorem qCmp_sgn {p q : Rat} (h : qSgn p ≠ qSgn q) : qCmp p q = if qSgn p < qSgn q then -1 else 1 := by
  unfold qSgn qCmp at *
  grind
theorem qSgn_eq {p q : Rat} (h : qSgn p = qSgn q) : (qNeg p = true ∧ qNeg q = true) ∨ (qNeg p = false ∧ qNeg q = false) := by
  have a := qNeg_iff p
  have b := qNeg_iff q
  unfold qSgn qCmp at h
  grind
theorem qSgn_sub (p q : Rat) : qSgn (p - q) = qCmp p q := by
  unfold qSgn qCmp
  grind

theorem enc_opp (q : Rat) : (if (enc q).num.size = 0 then enc q else ⟨!(enc q).neg, (enc q).num, (enc q).den⟩) = enc (-q) := by
  by_cases h0 : q = 0
  · rw [if_pos ((enc_num0 q).2 h0)]; subst h0; rfl
  · rw [if_neg (fun h => h0 ((enc_num0 q).1 h))]
    have hn : q.num ≠ 0 := fun h => h0 (Rat.num_eq_zero.1 h)
    unfold enc
    simp only [Rat.neg_num, Rat.neg_den, Int.natAbs_neg]
    congr 1
    rw [← decide_not]
    apply decide_eq_decide.2
    omega

theorem enc_one : enc 1 = ⟨false, natStr 1, bEmpty⟩ := by unfold enc; simp
theorem enc_int (z : Int) : enc (z : Rat) = ⟨decide (z < 0), natStr z.natAbs, bEmpty⟩ := by
  simp only [enc, Rat.num_intCast, Rat.den_intCast, if_true]
  rfl

end Go.Proofs.YtgmedcncbpdimaaDoor
end
