/- The builder's agreements; walked by the abstract machine. -/
import Derived.Test.YtogeijhepjcbgaaGreatDoorLawM
import Derived.Test.YtogeijhepjcbgaaGreatDoorAbTM
import Derived.Test.YtogeijhepjcbgaaGreatDoorGu1M
set_option linter.unusedVariables false
set_option linter.unusedSimpArgs false
set_option linter.defProp false
set_option linter.unnecessarySimpa false
/- The builder's agreements; walked by the abstract machine. -/
namespace Go.Proofs.YtogeijhepjcbgaaGreatDoor
open Go Go.RowKit
structure T3 where
  a : List GPart
  b : List GPart
  c : List GPart
def T3.put (T : T3) (x : Nat) (p : GPart) : T3 := if x = 1 then ⟨T.a ++ [p], T.b, T.c⟩ else if x = 2 then ⟨T.a, T.b ++ [p], T.c⟩ else ⟨T.a, T.b, T.c ++ [p]⟩
noncomputable def bgP (p : N3) (i : Nat) : GPart := if p.c / 2 ^ i % 2 = 1 then ⟨i, true, enc (((p.c / 64 % 9 : Nat) : Int) : Rat)⟩ else ⟨i, false, gZ⟩
def bgB (p : N3) (i : Nat) : Nat := p.b / 4 ^ i % 4
noncomputable def bgS (agrs : List GAgr) (p : N3) (i : Nat) (T : T3) : T3 := if bgB p i = 0 then T else if frA i agrs = true then T.put (bgB p i) (bgP p i) else T
noncomputable def bgL (agrs : List GAgr) (p : N3) : List GClaim → Nat → T3 → T3
  | [], _, T => T
  | _ :: l, i, T => bgL agrs p l (i + 1) (bgS agrs p i T)
noncomputable def bgT (p : N3) (T : T3) : T3 := if p.a / 8 % 4 = 0 then T.put (p.a / 32 % 3 + 1) ⟨-1, true, enc (((p.a / 96 % 7 : Nat) : Int) : Rat)⟩ else T
noncomputable def bgN (e : GEst) (p : N3) : GAgr := [(bgT p (bgL e.agrs p e.claims 0 ⟨[], [], []⟩)).a, (bgT p (bgL e.agrs p e.claims 0 ⟨[], [], []⟩)).b, (bgT p (bgL e.agrs p e.claims 0 ⟨[], [], []⟩)).c]
theorem wr16 (n : Nat) (h : n < 65536) : IntKind.u16.wrap (n : Int) = n := by simp [IntKind.wrap, IntKind.bits, IntKind.signed]; omega
theorem wr64 (n : Nat) (h : n < 18446744073709551616) : IntKind.u64.wrap (n : Int) = n := by simp [IntKind.wrap, IntKind.bits, IntKind.signed]; omega
theorem wri (n : Nat) (h : n < 9223372036854775808) : IntKind.i64.wrap (n : Int) = n := wrap_in ((inK_i64 _).2 ⟨by omega, by omega⟩)
theorem shr3 (n j : Nat) (hn : n < 65536) (hj : j ≤ 64) : IntKind.i64.wrap ((BitVec.ofInt IntKind.i64.bits ((n : Int).fdiv (2 ^ min j IntKind.i64.bits)) &&& BitVec.ofInt IntKind.i64.bits 3).toNat : Int) = ((n / 2 ^ j % 4 : Nat) : Int) := by
  have h1 : (BitVec.ofInt 64 ((n : Int).fdiv (2 ^ min j 64)) &&& BitVec.ofInt 64 3).toNat = n / 2 ^ j % 4 := by
    rw [Nat.min_eq_left hj]
    have h1 : (n : Int).fdiv (2 ^ j) = ((n / 2 ^ j : Nat) : Int) := by
      have : (2 : Int) ^ j = ((2 ^ j : Nat) : Int) := by norm_cast
      rw [this, Int.fdiv_eq_ediv_of_nonneg _ (Int.natCast_nonneg _)]; norm_cast
    have h2 : n / 2 ^ j < 65536 := Nat.lt_of_le_of_lt (Nat.div_le_self _ _) hn
    rw [h1, BitVec.ofInt_natCast, BitVec.toNat_and, BitVec.toNat_ofNat, Nat.mod_eq_of_lt (a := n / 2 ^ j) (by omega)]
    exact Nat.and_two_pow_sub_one_eq_mod (n := 2) _
  have h3 : IntKind.i64.bits = 64 := rfl
  rw [h3, h1]
  exact wri _ (by omega)
theorem shr1 (n j : Nat) (hn : n < 65536) (hj : j ≤ 64) : IntKind.i64.wrap ((BitVec.ofInt IntKind.i64.bits ((n : Int).fdiv (2 ^ min j IntKind.i64.bits)) &&& BitVec.ofInt IntKind.i64.bits 1).toNat : Int) = ((n / 2 ^ j % 2 : Nat) : Int) := by
  have h1 : (BitVec.ofInt 64 ((n : Int).fdiv (2 ^ min j 64)) &&& BitVec.ofInt 64 1).toNat = n / 2 ^ j % 2 := by
    rw [Nat.min_eq_left hj]
    have h1 : (n : Int).fdiv (2 ^ j) = ((n / 2 ^ j : Nat) : Int) := by
      have : (2 : Int) ^ j = ((2 ^ j : Nat) : Int) := by norm_cast
      rw [this, Int.fdiv_eq_ediv_of_nonneg _ (Int.natCast_nonneg _)]; norm_cast
    have h2 : n / 2 ^ j < 65536 := Nat.lt_of_le_of_lt (Nat.div_le_self _ _) hn
    rw [h1, BitVec.ofInt_natCast, BitVec.toNat_and, BitVec.toNat_ofNat, Nat.mod_eq_of_lt (a := n / 2 ^ j) (by omega)]
    exact Nat.and_two_pow_sub_one_eq_mod (n := 1) _
  have h3 : IntKind.i64.bits = 64 := rfl
  rw [h3, h1]
  exact wri _ (by omega)
theorem four_pow (k : Nat) : 2 ^ (2 * k) = 4 ^ k := by rw [Nat.pow_mul]
def cN3 (p : N3) : List C := [.lit (.int .u16 p.a), .lit (.int .u16 p.b), .lit (.int .u16 p.c)]
theorem aWhole (n : Int) (h0 : -9223372036854775808 ≤ n) (h1 : n ≤ 9223372036854775807) : ACall Tryz.prog 19 [.one (.lit (.int .i64 n))] (.val (.agg (cRat (enc (n : Rat))))) :=
  acall_flat (fnOK_of Tryz.func19 (by decide) (by kernel_rfl)) [.int .i64 n] (vRat (enc (n : Rat))) fun w => Whole_any n w h0 h1
theorem aAmount (x : Nat) (hx : x < 65536) : ACall Tryz.prog 24 [.one (.lit (.int .u16 x))] (.val (.agg (cRat (enc (qAmt x))))) :=
  acall_flat (fnOK_of Tryz.func24 (by decide) (by kernel_rfl)) [.int .u16 x] (vRat (enc (qAmt x))) fun w => Amount_any x w hx
theorem bgS_len (agrs : List GAgr) (p : N3) (i : Nat) (T : T3) : (bgS agrs p i T).a.length ≤ T.a.length + 1 ∧ (bgS agrs p i T).b.length ≤ T.b.length + 1 ∧ (bgS agrs p i T).c.length ≤ T.c.length + 1 := by
  unfold bgS T3.put
  repeat' split
  all_goals (simp)
def F_lAgr := And.intro zS (And.intro tf31 (And.intro tf0 (And.intro tf3 (And.intro tf4 (And.intro tf32 (And.intro tf5 (And.intro tf33 (And.intro tf7 (And.intro tf34 (And.intro tf35 (And.intro tf10 (And.intro tf36 (And.intro tf11 (And.intro tf37 (And.intro tf13 (And.intro tf38 (And.intro tf39 (And.intro tf40 (And.intro tf41 (And.intro tf42 (And.intro tf43 (And.intro tf44 (And.intro tf45 (And.intro tf46 (And.intro tf47 (And.intro tf15 (tf16)))))))))))))))))))))))))))
end Go.Proofs.YtogeijhepjcbgaaGreatDoor
