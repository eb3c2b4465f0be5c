/- insolvencyref1: divide: walked. -/
import Derived.Test.YtgmedcncbpdimaaDoorRef10M
import Derived.Test.YtgmedcncbpdimaaDoorRat5M
import Derived.Deep.DeepCutAuto
set_option linter.unusedVariables false
set_option linter.unusedSimpArgs false
section
/- insolvencyref1: divide: walked. -/
namespace Go.Proofs.YtgmedcncbpdimaaDoor
open Go.RowKit

theorem rdivide_long (S : Nat → Prop) (u v : Value) (x y : Nat) (w : World) (hS : ∀ b, S b → b < w.heap.size) (hl : (limbsOf x).length ≤ 999999999999) (hxy : y ≤ x) (hy2 : 2 ≤ (limbsOf y).length) (hu : rSlice 1 rU32 w S [u] (limbsOf x)) (hv : rSlice 1 rU32 w S [v] (limbsOf y)) :
    Calls Tryd.prog 91 #[u, v] w fun e w' => ∃ q r, e = .returned (.tuple #[q, r]) ∧ rSlice 1 rU32 w' (LT w'.heap.size) [q] (limbsOf (x / y)) ∧ rSlice 1 rU32 w' (LT w'.heap.size) [r] (limbsOf (x % y)) ∧ Below w.heap.size w w' := by
  have hc := order_any S u v x y w hS hu hv
  have hcn : ¬ natCmp x y < 0 := by unfold natCmp; rw [if_neg (by omega)]; split <;> omega
  have HC := hid hc
  clear hc
  have HL := hid (fun (w1 : World) (hb : Below w.heap.size w w1) => long_any0 (LT w1.heap.size) u v x y w1 (fun _ h => h) hl hxy hy2
    ((stays_rSlice stays_rU32) _ _ _ _ _ _ hu (fun b h => hb.block b (hS b h)) fun b h => Nat.lt_of_lt_of_le (hS b h) hb.size)
    ((stays_rSlice stays_rU32) _ _ _ _ _ _ hv (fun b h => hb.block b (hS b h)) fun b h => Nat.lt_of_lt_of_le (hS b h) hb.size))
  obtain ⟨va, vc, rfl, v1, v2, v3, v4⟩ := u32s_open hv
  obtain ⟨n, hn⟩ : ∃ n, n = (limbsOf y).length := ⟨_, rfl⟩
  rw [← hn] at hy2 HC HL ⊢
  have hne1 : ¬ ((n : Int) = 1) := by omega
  clear hv v4 hn v1 hu
  go_enter Tryd.func91, Tryd.ntmps91
  go_wp2_with fail
  refine Calls.mono HC.out ?_
  rintro e w1 ⟨rfl, hb1⟩
  go_wp2_with fail
  refine Calls.mono (HL.out _ hb1) ?_
  rintro e w2 ⟨q, r, rfl, hq, hr, hb2⟩
  go_wp2
  go_ret2
  exact ⟨_, _, rfl, hq, hr, hb1.step hb2⟩

theorem rdivide_any : RDiv := by
  intro S u v x y w hS hl hy hu hv
  have := limbsOf_len_pos hy
  by_cases h1 : x < y
  · exact rdivide_lt S u v x y w hS h1 hu hv
  · by_cases h2 : (limbsOf y).length = 1
    · exact rdivide_small S u v x y w hS (by omega) (by omega) h2 hu hv
    · exact rdivide_long S u v x y w hS hl (by omega) (by omega) hu hv

/-! ### The functions of naturals over one word -/

/-- A slice of words that tells a number. -/
def RNat (w : World) (v : Value) (n : Nat) : Prop := rSlice 1 rU32 w (LT w.heap.size) [v] (limbsOf n)
theorem RNat.below {w w' : World} {v : Value} {n : Nat} (h : RNat w v n) (hb : Below w.heap.size w w') : RNat w' v n := (stays_rSlice stays_rU32).below h hb hb.size
theorem RNat.alloc {w : World} {v : Value} {n : Nat} (h : RNat w v n) (o : Obj) : RNat (w.alloc o) v n := h.below ((Below.refl _ _).alloc (Nat.le_refl _) _)
/-- A number of at most k bytes. -/
def NB (k n : Nat) : Prop := n < 256 ^ k
theorem NB.limbs {k n : Nat} (h : NB k n) : (limbsOf n).length ≤ k := Nat.le_trans (limbs_blen _) (natBytes_len_le h)
theorem NB.mono {j k n : Nat} (h : NB j n) (hk : j ≤ k) : NB k n := Nat.lt_of_lt_of_le h (Nat.pow_le_pow_right (by decide) hk)
theorem NB.le {k m n : Nat} (h : NB k n) (hm : m ≤ n) : NB k m := Nat.lt_of_le_of_lt hm h
theorem NB.mul {j k m n : Nat} (h : NB j m) (h' : NB k n) : NB (j + k) (m * n) := pow_mul_lt h h'
theorem NB.add {j m n : Nat} (h : NB j m) (h' : NB j n) : NB (j + 1) (m + n) := by
  unfold NB at *
  rw [Nat.pow_succ]; omega
theorem NB.str {k : Nat} {s : ByteArray} (h : s.size ≤ k) : NB k (strVal s) := Nat.lt_of_lt_of_le (strVal_lt s) (Nat.pow_le_pow_right (by decide) h)

theorem cTimes {u v : Value} {x y k j : Nat} {w : World} (hx : NB k x) (hy : NB j y) (hk : k ≤ 500000000000) (hj : j ≤ 500000000000) (hu : RNat w u x) (hv : RNat w v y) :
    Calls Tryd.prog 66 #[u, v] w fun e w' => ∃ r, e = .returned r ∧ RNat w' r (x * y) ∧ Below w.heap.size w w' := by
  have := times_any u v (limbsOf x) (limbsOf y) w (Nat.le_trans hx.limbs hk) (Nat.le_trans hy.limbs hj) hu hv
  rw [limbsVal_limbsOf, limbsVal_limbsOf] at this
  exact this
theorem cPlus {u v : Value} {x y k j : Nat} {w : World} (hx : NB k x) (hy : NB j y) (hk : k ≤ 1000000000000) (hj : j ≤ 1000000000000) (hu : RNat w u x) (hv : RNat w v y) :
    Calls Tryd.prog 69 #[u, v] w fun e w' => ∃ r, e = .returned r ∧ RNat w' r (x + y) ∧ Below w.heap.size w w' :=
  plus_any _ u v x y w (fun _ h => h) (Nat.le_trans hx.limbs hk) (Nat.le_trans hy.limbs hj) hu hv
theorem cMinus {u v : Value} {x y k : Nat} {w : World} (hx : NB k x) (hk : k ≤ 1000000000000) (hyx : y ≤ x) (hu : RNat w u x) (hv : RNat w v y) :
    Calls Tryd.prog 71 #[u, v] w fun e w' => ∃ r, e = .returned r ∧ RNat w' r (x - y) ∧ Below w.heap.size w w' :=
  minus_any _ u v x y w (fun _ h => h) (Nat.le_trans hx.limbs hk) hyx hu hv
theorem cOrder {u v : Value} {x y : Nat} {w : World} (hu : RNat w u x) (hv : RNat w v y) :
    Calls Tryd.prog 70 #[u, v] w fun e w' => e = .returned (.int .i64 (natCmp x y)) ∧ Below w.heap.size w w' :=
  order_any _ u v x y w (fun _ h => h) hu hv
theorem cText {u : Value} {x k : Nat} {w : World} (hx : NB k x) (hk : k ≤ 1000000000000) (hu : RNat w u x) :
    Calls Tryd.prog 92 #[u] w fun e w' => e = .returned (.string (natStr x)) ∧ Below w.heap.size w w' := by
  have := rtext_any _ u (limbsOf x) w (fun _ h => h) (Nat.le_trans hx.limbs hk) hu
  rwa [limbsVal_limbsOf] at this
theorem cDivide {u v : Value} {x y k : Nat} {w : World} (hx : NB k x) (hk : k ≤ 900000000000) (hy : 0 < y) (hu : RNat w u x) (hv : RNat w v y) :
    Calls Tryd.prog 91 #[u, v] w fun e w' => ∃ q r, e = .returned (.tuple #[q, r]) ∧ RNat w' q (x / y) ∧ RNat w' r (x % y) ∧ Below w.heap.size w w' :=
  rdivide_any _ u v x y w (fun _ h => h) (Nat.le_trans hx.limbs (by omega)) hy hu hv
theorem cCommon {u v : Value} {x y k : Nat} {w : World} (hx : NB k x) (hy : NB k y) (hk : k ≤ 900000000000) (hu : RNat w u x) (hv : RNat w v y) :
    Calls Tryd.prog 90 #[u, v] w fun e w' => ∃ r, e = .returned r ∧ RNat w' r (Nat.gcd x y) ∧ Below w.heap.size w w' :=
  common_any rdivide_any u v x y w (Nat.le_trans hx.limbs (by omega)) (Nat.le_trans hy.limbs (by omega)) hu hv
theorem cLimbs (s : ByteArray) (w : World) (hs : s.size ≤ 1000000000000) :
    Calls Tryd.prog 67 #[.string s] w fun e w' => ∃ u, e = .returned u ∧ RNat w' u (strVal s) ∧ Below w.heap.size w w' := limbs_any s w hs
theorem cDen (r : GRat) (w : World) (hs : r.den.size ≤ 1000000000000) :
    Calls Tryd.prog 65 #[vRat r] w fun e w' => ∃ u, e = .returned u ∧ RNat w' u (gDen r) ∧ Below w.heap.size w w' := rden_any r w hs

end Go.Proofs.YtgmedcncbpdimaaDoor
end
section
/- insolvencyref1: GCD, reduced: walked. -/
namespace Go.Proofs.YtgmedcncbpdimaaDoor
open Go.RowKit

theorem rGCD_any (a b : ByteArray) (w : World) (ha : a.size ≤ 500000000000) (hb : b.size ≤ 500000000000) :
    Calls Tryd.prog 100 #[.string a, .string b] w fun e w' => e = .returned (.string (natStr (Nat.gcd (strVal a) (strVal b)))) ∧ Below w.heap.size w w' := by
  have H1 := hid (fun w => cLimbs a w (by omega))
  have H2 := hid (fun w => cLimbs b w (by omega))
  have HA := hid (NB.str ha)
  have HB := hid (NB.str hb)
  have HG := hid (show NB 500000000000 (Nat.gcd (strVal a) (strVal b)) by
    rcases Nat.eq_zero_or_pos (strVal a) with h | h
    · rw [h, Nat.gcd_zero_left]; exact HB.out
    · exact HA.out.le (Nat.gcd_le_left _ h))
  generalize strVal a = x at *
  generalize strVal b = y at *
  go_enter Tryd.func100, Tryd.ntmps100
  go_wp2_with fail
  refine Calls.mono (H1.out _) ?_
  rintro e w1 ⟨u, rfl, hu, hb1⟩
  go_wp2_with fail
  refine Calls.mono (H2.out _) ?_
  rintro e w2 ⟨v, rfl, hv, hb2⟩
  go_wp2_with fail
  refine Calls.mono (cCommon HA.out HB.out (by decide) (hu.below hb2) hv) ?_
  rintro e w3 ⟨r, rfl, hr, hb3⟩
  go_wp2_with fail
  refine Calls.mono (cText HG.out (by decide) hr) ?_
  rintro e w4 ⟨rfl, hb4⟩
  go_wp2
  go_ret
  exact ⟨rfl, hb1.step (hb2.step (hb3.step hb4))⟩

theorem RNat.kind {w : World} {u : Value} {n : Nat} (h : RNat w u n) (h0 : 0 < n) :
    ∃ b off m c x, u = .slice (some ⟨b, off, none⟩) m c ∧ b < w.heap.size ∧ w.cell? ⟨b, off, none⟩ = some (.int .u32 (x : Nat)) ∧ m ≤ 9223372036854775807 ∧ ((m = 1 ∧ x = n) ∨ (1 < m ∧ 1 < n)) := by
  obtain ⟨a, c, rfl, h1, h2, h3, h4⟩ := u32s_open h
  have hl := limbsOf_len_pos h0
  rcases h4 with h4 | ⟨b, off, rfl, h4⟩
  · rw [h4] at hl; simp at hl
  refine ⟨b, off, _, c, _, rfl, h4.1, (h4.u32 hl).1, by unfold maxLen at h2; omega, ?_⟩
  by_cases hm : (limbsOf n).length = 1
  · exact .inl ⟨hm, by have := (limbsOf_one hm).1; simp only [this, List.getElem_cons_zero]⟩
  · refine .inr ⟨by omega, ?_⟩
    rcases Nat.lt_or_ge 1 n with h5 | h5
    · exact h5
    · exfalso
      have : n = 1 := by omega
      subst this
      rw [limbsOf_1] at hm
      simp at hm

theorem RNat.zero {w : World} {u : Value} (h : RNat w u 0) : ∃ a c, u = .slice a 0 c := by
  obtain ⟨a, c, rfl, _⟩ := u32s_open h
  rw [limbsOf_zero]
  exact ⟨a, c, rfl⟩

end Go.Proofs.YtgmedcncbpdimaaDoor
end
