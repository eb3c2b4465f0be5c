/- insolvencyref1: FromUint: walked. -/
import Derived.Test.YtgmedcncbpdimaaDoorRef6M
import Derived.Test.YtgmedcncbpdimaaDoorNat5M
import Derived.Test.YtgmedcncbpdimaaDoorNat14M
import Derived.Handy
set_option linter.unusedVariables false
set_option linter.unusedSimpArgs false
section
/- insolvencyref1: FromUint: walked. -/
namespace Go.Proofs.YtgmedcncbpdimaaDoor
open Go.RowKit

set_option maxRecDepth 100000 in
theorem rfromUint_any (u : Nat) (w : World) (hu : u < 18446744073709551616) :
    Calls Tryd.prog 81 #[.int .u64 u] w fun e w' => e = .returned (.string (natStr u)) ∧ Below w.heap.size w w' := by
  have e1 : limbsVal [u % 4294967296, u / 4294967296] = u := by simp [limbsVal]; omega
  have hR : ∀ o : World, Own o w.heap.size 85 2 (fun j => .int .u32 (([u % 4294967296, u / 4294967296] : List Nat).getD j 0 : Nat)) → rSlice 1 rU32 o (LT o.heap.size) [.slice (some ⟨w.heap.size, 0, none⟩) 2 2] [u % 4294967296, u / 4294967296] := fun o ho =>
    own_limbs ho (fun _ => rfl) rfl (by omega) (by intro x hx; simp at hx; omega)
  have hO : Own (w.alloc (.cells #[.int .u32 ((u : Int) % 4294967296), .int .u32 ((u : Int) / 4294967296)] 85)) w.heap.size 85 2 (fun j => .int .u32 (([u % 4294967296, u / 4294967296] : List Nat).getD j 0 : Nat)) := by
    have := Own.new w 85 2 (fun j => .int .u32 (([u % 4294967296, u / 4294967296] : List Nat).getD j 0 : Nat))
    have e : (Array.range 2).map (fun j => Value.int .u32 (([u % 4294967296, u / 4294967296] : List Nat).getD j 0 : Nat)) = #[.int .u32 ((u : Int) % 4294967296), .int .u32 ((u : Int) / 4294967296)] := by
      apply Array.ext'
      simp [List.range_succ]
    rw [e] at this
    exact this
  have HT := hid (rtext_any _ _ _ _ (fun _ h => h) (by simp) (hR _ hO))
  rw [e1] at HT
  clear hR hO e1
  go_enter Tryd.func81, Tryd.ntmps81
  go_wp2_with fail
  refine Calls.mono HT.out ?_
  rintro e w1 ⟨rfl, hb1⟩
  go_wp2
  go_ret
  exact ⟨rfl, ((Below.refl w.heap.size w).alloc (Nat.le_refl _) _).step hb1⟩

end Go.Proofs.YtgmedcncbpdimaaDoor
end
section
/- insolvencyref1: small functions of rationals: walked. -/
namespace Go.Proofs.YtgmedcncbpdimaaDoor
open Go.RowKit

/-- A rational as a Go value. -/
def vRat (r : GRat) : Value := .agg #[.bool r.neg, .string r.num, .string r.den]

def sgnZ (r : GRat) : Int := if r.num.size = 0 then 0 else if r.neg = true then -1 else 1

theorem num_ne {s : ByteArray} (h : ¬ s.size = 0) : s.toList.isEmpty = false := by
  rw [ByteArray.toList_eq]
  cases hl : s.data.toList with
  | nil => exact absurd (by rw [← ByteArray.size_data, ← Array.length_toList, hl]; rfl) h
  | cons => rfl

theorem Signum_any (r : GRat) (w : World) : Calls Tryd.prog 79 #[vRat r] w fun e w' => e = .returned (.int .i64 (sgnZ r)) ∧ Below w.heap.size w w' := by
  unfold vRat
  by_cases h : r.num.size = 0
  · have hz : r.num = { data := #[] } := ByteArray.ext (Array.eq_empty_of_size_eq_zero h)
    have hR := hid (show sgnZ r = 0 by unfold sgnZ; rw [if_pos h])
    rw [hz]
    clear h hz
    go_enter Tryd.func79, Tryd.ntmps79
    go_wp2
    go_ret
    exact ⟨ret_int hR.out.symm, (Below.refl _ _).alloc (Nat.le_refl _) _⟩
  · have hz := num_ne h
    cases hn : r.neg with
    | true =>
      have hR := hid (show sgnZ r = -1 by unfold sgnZ; rw [if_neg h, if_pos hn])
      clear h hn
      go_enter Tryd.func79, Tryd.ntmps79
      go_wp2
      go_ret
      exact ⟨ret_int hR.out.symm, (Below.refl _ _).alloc (Nat.le_refl _) _⟩
    | false =>
      have hR := hid (show sgnZ r = 1 by unfold sgnZ; rw [if_neg h, if_neg (by rw [hn]; decide)])
      clear h hn
      go_enter Tryd.func79, Tryd.ntmps79
      go_wp2
      go_ret
      exact ⟨ret_int hR.out.symm, (Below.refl _ _).alloc (Nat.le_refl _) _⟩

end Go.Proofs.YtgmedcncbpdimaaDoor
end
section
/- insolvencyref1: size: walked. -/
namespace Go.Proofs.YtgmedcncbpdimaaDoor
open Go.RowKit

theorem size_any (n : Int) (w : World) (h0 : -9223372036854775808 ≤ n) (h1 : n ≤ 9223372036854775807) : Calls Tryd.prog 82 #[.int .i64 n] w fun e w' => e = .returned (.int .u64 (n.natAbs : Int)) ∧ w = w' := by
  by_cases h : n < 0
  · have e : Hid ((-(n + 1)) + 1 = (n.natAbs : Int)) := by show (-(n + 1)) + 1 = (n.natAbs : Int); omega
    go_enter Tryd.func82, Tryd.ntmps82
    go_wp2
    go_ret
    exact ⟨ret_int e.out, rfl⟩
  · have e : Hid (n = (n.natAbs : Int)) := by show n = (n.natAbs : Int); omega
    go_enter Tryd.func82, Tryd.ntmps82
    go_wp2
    go_ret
    exact ⟨ret_int e.out, rfl⟩

end Go.Proofs.YtgmedcncbpdimaaDoor
end
section
/- insolvencyref1: Opposite, Positive: walked. -/
namespace Go.Proofs.YtgmedcncbpdimaaDoor
open Go.RowKit

def gZero : GRat := ⟨false, { data := #[] }, { data := #[] }⟩
def gOpp (r : GRat) : GRat := if r.num.size = 0 then r else ⟨!r.neg, r.num, r.den⟩
def gPos (r : GRat) : GRat := if r.neg = true then gZero else r

theorem rPositive_any (r : GRat) (w : World) : Calls Tryd.prog 41 #[vRat r] w fun e w' => e = .returned (vRat (gPos r)) ∧ Below w.heap.size w w' := by
  cases hn : r.neg with
  | true =>
    have hR := hid (show gPos r = gZero by unfold gPos; rw [if_pos hn])
    rw [show vRat r = .agg #[.bool true, .string r.num, .string r.den] by unfold vRat; rw [hn]]
    rw [hR.out]
    unfold vRat gZero
    clear hn
    go_enter Tryd.func41, Tryd.ntmps41
    go_wp2
    go_returns
    exact ⟨rfl, ((Below.refl _ _).alloc (Nat.le_refl _) _).alloc (by simp) _⟩
  | false =>
    have hR := hid (show gPos r = r by unfold gPos; rw [if_neg (by rw [hn]; decide)])
    rw [hR.out, show vRat r = .agg #[.bool false, .string r.num, .string r.den] by unfold vRat; rw [hn]]
    clear hn
    go_enter Tryd.func41, Tryd.ntmps41
    go_wp2
    go_returns
    exact ⟨rfl, ((Below.refl _ _).alloc (Nat.le_refl _) _).alloc (by simp) _⟩

end Go.Proofs.YtgmedcncbpdimaaDoor
end
section
/- insolvencyref1: Opposite: walked. -/
namespace Go.Proofs.YtgmedcncbpdimaaDoor
open Go.RowKit

theorem rOpposite_any (r : GRat) (w : World) : Calls Tryd.prog 64 #[vRat r] w fun e w' => e = .returned (vRat (gOpp r)) ∧ Below w.heap.size w w' := by
  by_cases h : r.num.size = 0
  · have hz : r.num = { data := #[] } := ByteArray.ext (Array.eq_empty_of_size_eq_zero h)
    have hR := hid (show gOpp r = r by unfold gOpp; rw [if_pos h])
    rw [hR.out]
    unfold vRat
    rw [hz]
    clear h hz
    go_enter Tryd.func64, Tryd.ntmps64
    go_wp2
    go_returns
    exact ⟨rfl, ((Below.refl _ _).alloc (Nat.le_refl _) _).alloc (by simp) _⟩
  · have hz := num_ne h
    have hR := hid (show gOpp r = ⟨!r.neg, r.num, r.den⟩ by unfold gOpp; rw [if_neg h])
    rw [hR.out]
    unfold vRat
    clear h
    go_enter Tryd.func64, Tryd.ntmps64
    go_wp2
    go_returns
    exact ⟨rfl, ((Below.refl _ _).alloc (Nat.le_refl _) _).alloc (by simp) _⟩

end Go.Proofs.YtgmedcncbpdimaaDoor
end
