/- The builder's agreements; walked by the abstract machine. -/
import Derived.Test.YtokmkopihhnggaaGreatDoorBl1M
import Derived.Test.YtokmkopihhnggaaGreatDoorAbGM
set_option linter.unusedVariables false
set_option linter.unusedSimpArgs false
set_option linter.defProp false
namespace Go.Proofs.YtokmkopihhnggaaGreatDoor
open Go Go.RowKit
structure T3 where
 a : List GPart
 b : List GPart
 c : List GPart
def T3.put (T : T3) (x : Nat) (p : GPart) : T3 := if x = 1 then ⟨T.a ++ [p], T.b, T.c⟩ else if x = 2 then ⟨T.a, T.b ++ [p], T.c⟩ else ⟨T.a, T.b, T.c ++ [p]⟩
noncomputable def bgP (p : N3) (i : Nat) : GPart := if p.c / 2 ^ i % 2 = 1 then ⟨i, true, enc (((p.c / 64 % 9 : Nat) : Int) : Rat)⟩ else ⟨i, false, gZ⟩
def bgB (p : N3) (i : Nat) : Nat := p.b / 4 ^ i % 4
noncomputable def bgS (agrs : List GAgr) (p : N3) (i : Nat) (T : T3) : T3 := if bgB p i = 0 then T else if frA i agrs = true then T.put (bgB p i) (bgP p i) else T
noncomputable def bgL (agrs : List GAgr) (p : N3) : List GClaim → Nat → T3 → T3
 | [], _, T => T
 | _ :: l, i, T => bgL agrs p l (i + 1) (bgS agrs p i T)
noncomputable def bgT (p : N3) (T : T3) : T3 := if p.a / 8 % 4 = 0 then T.put (p.a / 32 % 3 + 1) ⟨-1, true, enc (((p.a / 96 % 7 : Nat) : Int) : Rat)⟩ else T
noncomputable def bgN (e : GEst) (p : N3) : GAgr := [(bgT p (bgL e.agrs p e.claims 0 ⟨[], [], []⟩)).a, (bgT p (bgL e.agrs p e.claims 0 ⟨[], [], []⟩)).b, (bgT p (bgL e.agrs p e.claims 0 ⟨[], [], []⟩)).c]
theorem wr16 (n : Nat) (h : n < 65536) : IntKind.u16.wrap (n : Int) = n := by simp [IntKind.wrap, IntKind.bits, IntKind.signed]; omega
theorem wr64 (n : Nat) (h : n < 18446744073709551616) : IntKind.u64.wrap (n : Int) = n := by simp [IntKind.wrap, IntKind.bits, IntKind.signed]; omega
theorem wri (n : Nat) (h : n < 9223372036854775808) : IntKind.i64.wrap (n : Int) = n := wrap_in ((inK_i64 _).2 ⟨by omega, by omega⟩)
theorem shr3 (n j : Nat) (hn : n < 65536) (hj : j ≤ 64) : IntKind.i64.wrap ((BitVec.ofInt IntKind.i64.bits ((n : Int).fdiv (2 ^ min j IntKind.i64.bits)) &&& BitVec.ofInt IntKind.i64.bits 3).toNat : Int) = ((n / 2 ^ j % 4 : Nat) : Int) := by
 have h1 : (BitVec.ofInt 64 ((n : Int).fdiv (2 ^ min j 64)) &&& BitVec.ofInt 64 3).toNat = n / 2 ^ j % 4 := by
  rw [Nat.min_eq_left hj]
  have h1 : (n : Int).fdiv (2 ^ j) = ((n / 2 ^ j : Nat) : Int) := by
   have : (2 : Int) ^ j = ((2 ^ j : Nat) : Int) := by norm_cast
   rw [this, Int.fdiv_eq_ediv_of_nonneg _ (Int.natCast_nonneg _)]; norm_cast
  have h2 : n / 2 ^ j < 65536 := Nat.lt_of_le_of_lt (Nat.div_le_self _ _) hn
  rw [h1, BitVec.ofInt_natCast, BitVec.toNat_and, BitVec.toNat_ofNat, Nat.mod_eq_of_lt (a := n / 2 ^ j) (by omega)]
  exact Nat.and_two_pow_sub_one_eq_mod (n := 2) _
 have h3 : IntKind.i64.bits = 64 := rfl
 rw [h3, h1]
 exact wri _ (by omega)
theorem shr1 (n j : Nat) (hn : n < 65536) (hj : j ≤ 64) : IntKind.i64.wrap ((BitVec.ofInt IntKind.i64.bits ((n : Int).fdiv (2 ^ min j IntKind.i64.bits)) &&& BitVec.ofInt IntKind.i64.bits 1).toNat : Int) = ((n / 2 ^ j % 2 : Nat) : Int) := by
 have h1 : (BitVec.ofInt 64 ((n : Int).fdiv (2 ^ min j 64)) &&& BitVec.ofInt 64 1).toNat = n / 2 ^ j % 2 := by
  rw [Nat.min_eq_left hj]
  have h1 : (n : Int).fdiv (2 ^ j) = ((n / 2 ^ j : Nat) : Int) := by
   have : (2 : Int) ^ j = ((2 ^ j : Nat) : Int) := by norm_cast
   rw [this, Int.fdiv_eq_ediv_of_nonneg _ (Int.natCast_nonneg _)]; norm_cast
  have h2 : n / 2 ^ j < 65536 := Nat.lt_of_le_of_lt (Nat.div_le_self _ _) hn
  rw [h1, BitVec.ofInt_natCast, BitVec.toNat_and, BitVec.toNat_ofNat, Nat.mod_eq_of_lt (a := n / 2 ^ j) (by omega)]
  exact Nat.and_two_pow_sub_one_eq_mod (n := 1) _
 have h3 : IntKind.i64.bits = 64 := rfl
 rw [h3, h1]
 exact wri _ (by omega)
theorem four_pow (k : Nat) : 2 ^ (2 * k) = 4 ^ k := by rw [Nat.pow_mul]
def cN3 (p : N3) : List C := [.lit (.int .u16 p.a), .lit (.int .u16 p.b), .lit (.int .u16 p.c)]
theorem aWhole (n : Int) (h0 : -9223372036854775808 ≤ n) (h1 : n ≤ 9223372036854775807) : ACall Tryz.prog 14 [.one (.lit (.int .i64 n))] (.val (.agg (cRat (enc (n : Rat))))) :=
 acall_flat (fnOK_of Tryz.func14 (by decide) (by kernel_rfl)) [.int .i64 n] (vRat (enc (n : Rat))) fun w => Whole_any n w h0 h1
theorem aAmount (x : Nat) (hx : x < 65536) : ACall Tryz.prog 30 [.one (.lit (.int .u16 x))] (.val (.agg (cRat (enc (qAmt x))))) :=
 acall_flat (fnOK_of Tryz.func30 (by decide) (by kernel_rfl)) [.int .u16 x] (vRat (enc (qAmt x))) fun w => Amount_any x w hx
theorem bgS_len (agrs : List GAgr) (p : N3) (i : Nat) (T : T3) : (bgS agrs p i T).a.length ≤ T.a.length + 1 ∧ (bgS agrs p i T).b.length ≤ T.b.length + 1 ∧ (bgS agrs p i T).c.length ≤ T.c.length + 1 := by
 unfold bgS T3.put
 repeat' split
 all_goals (simp)
def F9 := And.intro zS (And.intro tf104 (And.intro tf1 (And.intro tf2 (And.intro tf23 (And.intro tf24 (And.intro tf0 (And.intro tf29 (And.intro tf30 (And.intro tf16 (And.intro tf17 (And.intro tf31 (And.intro tf32 (And.intro tf3 (And.intro tf75 (And.intro tf11 (And.intro tf18 (And.intro tf19 (And.intro tf105 (And.intro tf106 (And.intro tf83 (And.intro tf87 (And.intro tf4 (And.intro tf107 (And.intro tf108 (And.intro tf88 (And.intro tf35 (tf5)))))))))))))))))))))))))))
set_option maxRecDepth 100000 in
set_option maxHeartbeats 4000000 in
theorem agree_A (e : GEst) (p : N3) (hp : p.a < 65536 ∧ p.b < 65536 ∧ p.c < 65536) (hc : e.claims.length ≤ 30) (hn : e.agrs.length ≤ 1000000000000) (he : ∀ a ∈ e.agrs, a.length ≤ 1000000000000 ∧ ∀ t ∈ a, t.length ≤ 1000000000000) : ACall Tryz.prog 48 [.agg (cEst e), .agg (cN3 p)] (.val (.one (.sh 1 (e.agrs ++ [bgN e p]).length (flat cAgr (e.agrs ++ [bgN e p]))))) := by
 refine acall_of Tryz.func48 rfl (by decide) (N := 99) rfl (by simp) (R := [.tmp 4]) rfl fun en k0 => ?_
 refine awN ?_
 simp only [(id F9), seval, cEst, cN3]
 repeat refine ob ?_
 refine awN ?_
 simp only [(id F9), seval, cEst, cN3]
 repeat refine ob ?_
 refine awN ?_
 simp only [(id F9), seval, cEst, cN3]
 repeat refine ob ?_
 refine awN ?_
 simp only [(id F9), seval, cEst, cN3]
 repeat refine ob ?_
 refine awp_nilc 11 0 1063 _ 46 5 (by decide) (by rfl) (by decide) (by simp) (by rfl) ?_
 refine awp_nilc 11 1 2063 _ 46 5 (by decide) (by rfl) (by decide) (by simp) (by rfl) ?_
 refine awp_nilc 11 2 3063 _ 46 5 (by decide) (by rfl) (by decide) (by simp) (by rfl) ?_
 refine awp_keep [2, 3, 4, 5, 6, 17, 18] [2, 3, 11, 1063, 2063, 3063] ?_
 try unfold Later
 try simp only [(id F9), seval, cEst, cN3, bgS, T3.put, bgP, flat_snoc, cPart, List.length_append, List.length_cons, List.length_nil]
 repeat' first|apply awS|apply awB
 refine awp_loopw (fun n st => ∃ k0 T s1 s2 s3 nx, k0 ≤ e.claims.length ∧ n = e.claims.length - k0 ∧ bgL e.agrs p (e.claims.drop k0) k0 T = bgL e.agrs p e.claims 0 ⟨[], [], []⟩ ∧ T.a.length ≤ k0 ∧ T.b.length ≤ k0 ∧ T.c.length ≤ k0 ∧ st = ⟨mkT [(2, .val (.one (.ptr 2 0 0))), (3, .val (.one (.ptr 3 1 0))), (4, .val (.one (.lit (.slice none 0 0)))), (5, .val (.one (.own 11 2 3 1))), (6, one (.int .i64 p.b)), (17, one (.int .i64 e.claims.length)), (18, one (.int .i64 k0))], mkH [(2, ⟨0, 36, 5, 1, cEst e⟩), (3, ⟨1, 98, 3, 1, cN3 p⟩), (11, ⟨2, 47, 1, 3, [.own 1063 s1 T.a.length 5, .own 2063 s2 T.b.length 5, .own 3063 s3 T.c.length 5]⟩), (1063, ⟨s1, 46, 5, T.a.length, flat cPart T.a⟩), (2063, ⟨s2, 46, 5, T.b.length, flat cPart T.b⟩), (3063, ⟨s3, 46, 5, T.c.length, flat cPart T.c⟩)], nx, 0⟩) (e.claims.length) ⟨0, ⟨[], [], []⟩, _, _, _, _, by omega, by omega, by rfl, (by first | omega | assumption | rfl | simp | (simp; omega)), (by first | omega | assumption | rfl | simp | (simp; omega)), (by first | omega | assumption | rfl | simp | (simp; omega)), rfl⟩ ?_
 rintro n0 st ⟨k0, T, s1, s2, s3, nx0, hk0, rfl, hL0, hV0_1, hV0_2, hV0_3, rfl⟩
 by_cases hlt0 : k0 < e.claims.length
 ·
  have hI0 : (k0 : Int) < (e.claims.length : Int) := by omega
  rw [List.drop_eq_getElem_cons hlt0] at hL0
  have aL := bgS_len e.agrs p k0 T
  simp only [bgL] at hL0
  refine awN ?_
  simp only [(id F9), seval, cEst, cN3, hI0]
  repeat refine ob ?_
  refine awT ?_
  refine awK ?_
  simp only [(id F9), seval]
  refine awN ?_
  simp only [(id F9), seval, cEst, cN3, hI0]
  repeat refine ob ?_
  have w2 : IntKind.u64.wrap (2 * (k0 : Int)) = ((2 * k0 : Nat) : Int) := by have := wr64 (2 * k0) (by omega); rw [← this]; norm_cast
  have w3 := shr3 p.b (2 * k0) hp.2.1 (by omega)
  rw [four_pow] at w3
  change _ = ((bgB p k0 : Nat) : Int) at w3
  refine awN ?_
  simp only [(id F9), seval, cEst, cN3, hI0, w2, w3]
  repeat refine ob ?_
  by_cases hx : ((bgB p k0 : Nat) : Int) = 0
  ·
   have yhx : bgB p k0 = 0 := by omega
   refine awR [] [none, none, none, some (29, false), some (29, false), some (29, false), some (29, false), none] ?_
   simp only [(id F9), seval, cEst, cN3, hI0, hx, yhx, flat_pure cClaim_pure, flat_pure cAgr_pure]
   repeat refine ob ?_
   refine awT ?_
   refine awQ ?_
   simp only [(id F9), seval]
   refine awN ?_
   simp only [(id F9), seval, cEst, cN3, hI0, hx, yhx]
   repeat refine ob ?_
   repeat refine ob ?_
   refine ⟨_, wk_keep [2, 3, 4, 5, 6, 17, 18] [2, 3, 11, 1063, 2063, 3063], e.claims.length - (k0 + 1), by omega, k0 + 1, (bgS e.agrs p k0 T), ?a9_s1, ?a9_s2, ?a9_s3, ?a9_nx, by omega, rfl, ?i9_0, ?i9_1, ?i9_2, ?i9_3, ?st9⟩
   case st9 => (simp only [(id F9), seval, bgS, T3.put, bgP, flat_snoc, cPart, List.length_append, List.length_cons, List.length_nil, cEst, cN3, hI0, hx, yhx]; first | rfl | (simp [bgS, T3.put, bgP, flat_snoc, cPart, List.length_append, List.length_cons, List.length_nil, hI0, hx, yhx, Nat.add_mul]; done))
   case i9_0 => (first | exact hL0 | (rw [← hL0]; simp only [reduceIte, hI0, hx, yhx]; done) | (rw [← hL0]; simp [hI0, hx, yhx]; done) | (simp [hI0, hx, yhx] at hL0; simpa using hL0) | (rw [← hL0]; simp [*]; done))
   case i9_1 => (first | omega | assumption | (simp; omega) | (simp_all; done))
   case i9_2 => (first | omega | assumption | (simp; omega) | (simp_all; done))
   case i9_3 => (first | omega | assumption | (simp; omega) | (simp_all; done))
  have yhx : ¬ bgB p k0 = 0 := by omega
  by_cases hfr : frA k0 e.agrs = true
  ·
   refine awR [] [none, none, none, some (29, false), some (29, false), some (29, false), some (29, false), none] ?_
   simp only [(id F9), seval, cEst, cN3, hI0, hx, yhx, hfr, flat_pure cClaim_pure, flat_pure cAgr_pure]
   repeat refine ob ?_
   refine ⟨_, (free_A e k0 hn he), rfl, ?_⟩
   try unfold Later
   try simp only [(id F9), seval, cEst, cN3, hI0, hx, yhx, hfr, flat_pure cClaim_pure, flat_pure cAgr_pure]
   repeat refine ob ?_
   refine awF ?_
   refine awK ?_
   simp only [(id F9), seval]
   refine awN ?_
   simp only [(id F9), seval, cEst, cN3, hI0, hx, yhx, hfr]
   repeat refine ob ?_
   by_cases hb : ((p.c / 2 ^ k0 % 2 : Nat) : Int) = 1
   ·
    have yhb : p.c / 2 ^ k0 % 2 = 1 := by omega
    have w4 := wr64 k0 (by omega)
    have w5 := shr1 p.c k0 hp.2.2 (by omega)
    refine awN ?_
    simp only [(id F9), seval, cEst, cN3, hI0, hx, yhx, hfr, hb, yhb, w4, w5]
    repeat refine ob ?_
    refine awT ?_
    refine awN ?_
    simp only [(id F9), seval, cEst, cN3, hI0, hx, yhx, hfr, hb, yhb]
    repeat refine ob ?_
    have w6 : ((p.c : Nat) : Int).fdiv (2 ^ min 6 IntKind.u16.bits) = ((p.c / 64 : Nat) : Int) := by show ((p.c : Nat) : Int).fdiv 64 = _; rw [Int.fdiv_eq_ediv_of_nonneg _ (by decide)]; norm_cast
    have w7 : ((p.c / 64 : Nat) : Int).tmod 9 = ((p.c / 64 % 9 : Nat) : Int) := by norm_cast
    refine awN ?_
    simp only [(id F9), seval, cEst, cN3, hI0, hx, yhx, hfr, hb, yhb, w6, w7, cRat]
    repeat refine ob ?_
    refine ⟨_, (aWhole ((p.c / 64 % 9 : Nat) : Int) (by omega) (by omega)), rfl, ?_⟩
    try unfold Later
    try simp only [(id F9), seval, cEst, cN3, hI0, hx, yhx, hfr, hb, yhb, w6, w7, cRat]
    repeat refine ob ?_
    by_cases x1 : ((bgB p k0 : Nat) : Int) = 1
    ·
     have yx1 : bgB p k0 = 1 := by omega
     refine awp_nb 1000 ?_
     dsimp only
     refine awD (scT 0 9 (scq [18, 20, 23, 24] .nil)) [none, none, none, none, none, none, none, none, none, none, none, none, none] ?_
     simp only [(id F9), seval, cEst, cN3, hI0, hx, yhx, hfr, hb, yhb, x1, yx1]
     repeat refine ob ?_
     refine awp_nb 0 ?_
     dsimp only
     refine awN ?_
     simp only [(id F9), seval, cEst, cN3, hI0, hx, yhx, hfr, hb, yhb, x1, yx1]
     repeat refine ob ?_
     repeat refine ob ?_
     refine ⟨_, wk_keep [2, 3, 4, 5, 6, 17, 18] [2, 3, 11, 1063, 2063, 3063], e.claims.length - (k0 + 1), by omega, k0 + 1, (bgS e.agrs p k0 T), ?a17_s1, ?a17_s2, ?a17_s3, ?a17_nx, by omega, rfl, ?i17_0, ?i17_1, ?i17_2, ?i17_3, ?st17⟩
     case st17 => (simp only [(id F9), seval, bgS, T3.put, bgP, flat_snoc, cPart, List.length_append, List.length_cons, List.length_nil, cEst, cN3, hI0, hx, yhx, hfr, hb, yhb, x1, yx1]; first | rfl | (simp [bgS, T3.put, bgP, flat_snoc, cPart, List.length_append, List.length_cons, List.length_nil, hI0, hx, yhx, hfr, hb, yhb, x1, yx1, Nat.add_mul]; done))
     case i17_0 => (first | exact hL0 | (rw [← hL0]; simp only [reduceIte, hI0, hx, yhx, hfr, hb, yhb, x1, yx1]; done) | (rw [← hL0]; simp [hI0, hx, yhx, hfr, hb, yhb, x1, yx1]; done) | (simp [hI0, hx, yhx, hfr, hb, yhb, x1, yx1] at hL0; simpa using hL0) | (rw [← hL0]; simp [*]; done))
     case i17_1 => (first | omega | assumption | (simp; omega) | (simp_all; done))
     case i17_2 => (first | omega | assumption | (simp; omega) | (simp_all; done))
     case i17_3 => (first | omega | assumption | (simp; omega) | (simp_all; done))
    have yx1 : ¬ bgB p k0 = 1 := by omega
    by_cases x2 : ((bgB p k0 : Nat) : Int) = 2
    ·
     have yx2 : bgB p k0 = 2 := by omega
     refine awp_nb 2000 ?_
     dsimp only
     refine awD (scT 0 9 (scq [18, 20, 23, 24] .nil)) [none, none, none, none, none, none, none, none, none, none, none, none, none] ?_
     simp only [(id F9), seval, cEst, cN3, hI0, hx, yhx, hfr, hb, yhb, x1, yx1, x2, yx2]
     repeat refine ob ?_
     refine awp_nb 0 ?_
     dsimp only
     refine awN ?_
     simp only [(id F9), seval, cEst, cN3, hI0, hx, yhx, hfr, hb, yhb, x1, yx1, x2, yx2]
     repeat refine ob ?_
     repeat refine ob ?_
     refine ⟨_, wk_keep [2, 3, 4, 5, 6, 17, 18] [2, 3, 11, 1063, 2063, 3063], e.claims.length - (k0 + 1), by omega, k0 + 1, (bgS e.agrs p k0 T), ?a20_s1, ?a20_s2, ?a20_s3, ?a20_nx, by omega, rfl, ?i20_0, ?i20_1, ?i20_2, ?i20_3, ?st20⟩
     case st20 => (simp only [(id F9), seval, bgS, T3.put, bgP, flat_snoc, cPart, List.length_append, List.length_cons, List.length_nil, cEst, cN3, hI0, hx, yhx, hfr, hb, yhb, x1, yx1, x2, yx2]; first | rfl | (simp [bgS, T3.put, bgP, flat_snoc, cPart, List.length_append, List.length_cons, List.length_nil, hI0, hx, yhx, hfr, hb, yhb, x1, yx1, x2, yx2, Nat.add_mul]; done))
     case i20_0 => (first | exact hL0 | (rw [← hL0]; simp only [reduceIte, hI0, hx, yhx, hfr, hb, yhb, x1, yx1, x2, yx2]; done) | (rw [← hL0]; simp [hI0, hx, yhx, hfr, hb, yhb, x1, yx1, x2, yx2]; done) | (simp [hI0, hx, yhx, hfr, hb, yhb, x1, yx1, x2, yx2] at hL0; simpa using hL0) | (rw [← hL0]; simp [*]; done))
     case i20_1 => (first | omega | assumption | (simp; omega) | (simp_all; done))
     case i20_2 => (first | omega | assumption | (simp; omega) | (simp_all; done))
     case i20_3 => (first | omega | assumption | (simp; omega) | (simp_all; done))
    have yx3 : bgB p k0 = 3 := by unfold bgB at *; omega
    have xi3 : ((bgB p k0 : Nat) : Int) = 3 := by omega
    refine awp_nb 3000 ?_
    dsimp only
    refine awD (scT 0 9 (scq [18, 20, 23, 24] .nil)) [none, none, none, none, none, none, none, none, none, none, none, none, none] ?_
    simp only [(id F9), seval, cEst, cN3, hI0, hx, yhx, hfr, hb, yhb, x1, yx1, x2, yx3, xi3]
    repeat refine ob ?_
    refine awp_nb 0 ?_
    dsimp only
    refine awN ?_
    simp only [(id F9), seval, cEst, cN3, hI0, hx, yhx, hfr, hb, yhb, x1, yx1, x2, yx3, xi3]
    repeat refine ob ?_
    repeat refine ob ?_
    refine ⟨_, wk_keep [2, 3, 4, 5, 6, 17, 18] [2, 3, 11, 1063, 2063, 3063], e.claims.length - (k0 + 1), by omega, k0 + 1, (bgS e.agrs p k0 T), ?a23_s1, ?a23_s2, ?a23_s3, ?a23_nx, by omega, rfl, ?i23_0, ?i23_1, ?i23_2, ?i23_3, ?st23⟩
    case st23 => (simp only [(id F9), seval, bgS, T3.put, bgP, flat_snoc, cPart, List.length_append, List.length_cons, List.length_nil, cEst, cN3, hI0, hx, yhx, hfr, hb, yhb, x1, yx1, x2, yx3, xi3]; first | rfl | (simp [bgS, T3.put, bgP, flat_snoc, cPart, List.length_append, List.length_cons, List.length_nil, hI0, hx, yhx, hfr, hb, yhb, x1, yx1, x2, yx3, xi3, Nat.add_mul]; done))
    case i23_0 => (first | exact hL0 | (rw [← hL0]; simp only [reduceIte, hI0, hx, yhx, hfr, hb, yhb, x1, yx1, x2, yx3, xi3]; done) | (rw [← hL0]; simp [hI0, hx, yhx, hfr, hb, yhb, x1, yx1, x2, yx3, xi3]; done) | (simp [hI0, hx, yhx, hfr, hb, yhb, x1, yx1, x2, yx3, xi3] at hL0; simpa using hL0) | (rw [← hL0]; simp [*]; done))
    case i23_1 => (first | omega | assumption | (simp; omega) | (simp_all; done))
    case i23_2 => (first | omega | assumption | (simp; omega) | (simp_all; done))
    case i23_3 => (first | omega | assumption | (simp; omega) | (simp_all; done))
   have yhb : ¬ p.c / 2 ^ k0 % 2 = 1 := by omega
   have w4 := wr64 k0 (by omega)
   have w5 := shr1 p.c k0 hp.2.2 (by omega)
   refine awN ?_
   simp only [(id F9), seval, cEst, cN3, hI0, hx, yhx, hfr, hb, yhb, w4, w5]
   repeat refine ob ?_
   refine awF ?_
   refine awK ?_
   simp only [(id F9), seval]
   by_cases x1 : ((bgB p k0 : Nat) : Int) = 1
   ·
    have yx1 : bgB p k0 = 1 := by omega
    refine awp_nb 1000 ?_
    dsimp only
    refine awD (scT 0 9 (scq [18, 20, 23, 24] .nil)) [none, none, none, none, none, none, none, none, none, none, none, none, none] ?_
    simp only [(id F9), seval, cEst, cN3, hI0, hx, yhx, hfr, hb, yhb, x1, yx1]
    repeat refine ob ?_
    refine awp_nb 0 ?_
    dsimp only
    refine awN ?_
    simp only [(id F9), seval, cEst, cN3, hI0, hx, yhx, hfr, hb, yhb, x1, yx1]
    repeat refine ob ?_
    repeat refine ob ?_
    refine ⟨_, wk_keep [2, 3, 4, 5, 6, 17, 18] [2, 3, 11, 1063, 2063, 3063], e.claims.length - (k0 + 1), by omega, k0 + 1, (bgS e.agrs p k0 T), ?a27_s1, ?a27_s2, ?a27_s3, ?a27_nx, by omega, rfl, ?i27_0, ?i27_1, ?i27_2, ?i27_3, ?st27⟩
    case st27 => (simp only [(id F9), seval, bgS, T3.put, bgP, flat_snoc, cPart, List.length_append, List.length_cons, List.length_nil, cEst, cN3, hI0, hx, yhx, hfr, hb, yhb, x1, yx1]; first | rfl | (simp [bgS, T3.put, bgP, flat_snoc, cPart, List.length_append, List.length_cons, List.length_nil, hI0, hx, yhx, hfr, hb, yhb, x1, yx1, Nat.add_mul]; done))
    case i27_0 => (first | exact hL0 | (rw [← hL0]; simp only [reduceIte, hI0, hx, yhx, hfr, hb, yhb, x1, yx1]; done) | (rw [← hL0]; simp [hI0, hx, yhx, hfr, hb, yhb, x1, yx1]; done) | (simp [hI0, hx, yhx, hfr, hb, yhb, x1, yx1] at hL0; simpa using hL0) | (rw [← hL0]; simp [*]; done))
    case i27_1 => (first | omega | assumption | (simp; omega) | (simp_all; done))
    case i27_2 => (first | omega | assumption | (simp; omega) | (simp_all; done))
    case i27_3 => (first | omega | assumption | (simp; omega) | (simp_all; done))
   have yx1 : ¬ bgB p k0 = 1 := by omega
   by_cases x2 : ((bgB p k0 : Nat) : Int) = 2
   ·
    have yx2 : bgB p k0 = 2 := by omega
    refine awp_nb 2000 ?_
    dsimp only
    refine awD (scT 0 9 (scq [18, 20, 23, 24] .nil)) [none, none, none, none, none, none, none, none, none, none, none, none, none] ?_
    simp only [(id F9), seval, cEst, cN3, hI0, hx, yhx, hfr, hb, yhb, x1, yx1, x2, yx2]
    repeat refine ob ?_
    refine awp_nb 0 ?_
    dsimp only
    refine awN ?_
    simp only [(id F9), seval, cEst, cN3, hI0, hx, yhx, hfr, hb, yhb, x1, yx1, x2, yx2]
    repeat refine ob ?_
    repeat refine ob ?_
    refine ⟨_, wk_keep [2, 3, 4, 5, 6, 17, 18] [2, 3, 11, 1063, 2063, 3063], e.claims.length - (k0 + 1), by omega, k0 + 1, (bgS e.agrs p k0 T), ?a30_s1, ?a30_s2, ?a30_s3, ?a30_nx, by omega, rfl, ?i30_0, ?i30_1, ?i30_2, ?i30_3, ?st30⟩
    case st30 => (simp only [(id F9), seval, bgS, T3.put, bgP, flat_snoc, cPart, List.length_append, List.length_cons, List.length_nil, cEst, cN3, hI0, hx, yhx, hfr, hb, yhb, x1, yx1, x2, yx2]; first | rfl | (simp [bgS, T3.put, bgP, flat_snoc, cPart, List.length_append, List.length_cons, List.length_nil, hI0, hx, yhx, hfr, hb, yhb, x1, yx1, x2, yx2, Nat.add_mul]; done))
    case i30_0 => (first | exact hL0 | (rw [← hL0]; simp only [reduceIte, hI0, hx, yhx, hfr, hb, yhb, x1, yx1, x2, yx2]; done) | (rw [← hL0]; simp [hI0, hx, yhx, hfr, hb, yhb, x1, yx1, x2, yx2]; done) | (simp [hI0, hx, yhx, hfr, hb, yhb, x1, yx1, x2, yx2] at hL0; simpa using hL0) | (rw [← hL0]; simp [*]; done))
    case i30_1 => (first | omega | assumption | (simp; omega) | (simp_all; done))
    case i30_2 => (first | omega | assumption | (simp; omega) | (simp_all; done))
    case i30_3 => (first | omega | assumption | (simp; omega) | (simp_all; done))
   have yx3 : bgB p k0 = 3 := by unfold bgB at *; omega
   have xi3 : ((bgB p k0 : Nat) : Int) = 3 := by omega
   refine awp_nb 3000 ?_
   dsimp only
   refine awD (scT 0 9 (scq [18, 20, 23, 24] .nil)) [none, none, none, none, none, none, none, none, none, none, none, none, none] ?_
   simp only [(id F9), seval, cEst, cN3, hI0, hx, yhx, hfr, hb, yhb, x1, yx1, x2, yx3, xi3]
   repeat refine ob ?_
   refine awp_nb 0 ?_
   dsimp only
   refine awN ?_
   simp only [(id F9), seval, cEst, cN3, hI0, hx, yhx, hfr, hb, yhb, x1, yx1, x2, yx3, xi3]
   repeat refine ob ?_
   repeat refine ob ?_
   refine ⟨_, wk_keep [2, 3, 4, 5, 6, 17, 18] [2, 3, 11, 1063, 2063, 3063], e.claims.length - (k0 + 1), by omega, k0 + 1, (bgS e.agrs p k0 T), ?a33_s1, ?a33_s2, ?a33_s3, ?a33_nx, by omega, rfl, ?i33_0, ?i33_1, ?i33_2, ?i33_3, ?st33⟩
   case st33 => (simp only [(id F9), seval, bgS, T3.put, bgP, flat_snoc, cPart, List.length_append, List.length_cons, List.length_nil, cEst, cN3, hI0, hx, yhx, hfr, hb, yhb, x1, yx1, x2, yx3, xi3]; first | rfl | (simp [bgS, T3.put, bgP, flat_snoc, cPart, List.length_append, List.length_cons, List.length_nil, hI0, hx, yhx, hfr, hb, yhb, x1, yx1, x2, yx3, xi3, Nat.add_mul]; done))
   case i33_0 => (first | exact hL0 | (rw [← hL0]; simp only [reduceIte, hI0, hx, yhx, hfr, hb, yhb, x1, yx1, x2, yx3, xi3]; done) | (rw [← hL0]; simp [hI0, hx, yhx, hfr, hb, yhb, x1, yx1, x2, yx3, xi3]; done) | (simp [hI0, hx, yhx, hfr, hb, yhb, x1, yx1, x2, yx3, xi3] at hL0; simpa using hL0) | (rw [← hL0]; simp [*]; done))
   case i33_1 => (first | omega | assumption | (simp; omega) | (simp_all; done))
   case i33_2 => (first | omega | assumption | (simp; omega) | (simp_all; done))
   case i33_3 => (first | omega | assumption | (simp; omega) | (simp_all; done))
  refine awR [] [none, none, none, some (29, false), some (29, false), some (29, false), some (29, false), none] ?_
  simp only [(id F9), seval, cEst, cN3, hI0, hx, yhx, hfr, flat_pure cClaim_pure, flat_pure cAgr_pure]
  repeat refine ob ?_
  refine ⟨_, (free_A e k0 hn he), rfl, ?_⟩
  try unfold Later
  try simp only [(id F9), seval, cEst, cN3, hI0, hx, yhx, hfr, flat_pure cClaim_pure, flat_pure cAgr_pure]
  repeat refine ob ?_
  refine awT ?_
  refine awQ ?_
  simp only [(id F9), seval]
  refine awN ?_
  simp only [(id F9), seval, cEst, cN3, hI0, hx, yhx, hfr]
  repeat refine ob ?_
  repeat refine ob ?_
  refine ⟨_, wk_keep [2, 3, 4, 5, 6, 17, 18] [2, 3, 11, 1063, 2063, 3063], e.claims.length - (k0 + 1), by omega, k0 + 1, (bgS e.agrs p k0 T), ?a36_s1, ?a36_s2, ?a36_s3, ?a36_nx, by omega, rfl, ?i36_0, ?i36_1, ?i36_2, ?i36_3, ?st36⟩
  case st36 => (simp only [(id F9), seval, bgS, T3.put, bgP, flat_snoc, cPart, List.length_append, List.length_cons, List.length_nil, cEst, cN3, hI0, hx, yhx, hfr]; first | rfl | (simp [bgS, T3.put, bgP, flat_snoc, cPart, List.length_append, List.length_cons, List.length_nil, hI0, hx, yhx, hfr, Nat.add_mul]; done))
  case i36_0 => (first | exact hL0 | (rw [← hL0]; simp only [reduceIte, hI0, hx, yhx, hfr]; done) | (rw [← hL0]; simp [hI0, hx, yhx, hfr]; done) | (simp [hI0, hx, yhx, hfr] at hL0; simpa using hL0) | (rw [← hL0]; simp [*]; done))
  case i36_1 => (first | omega | assumption | (simp; omega) | (simp_all; done))
  case i36_2 => (first | omega | assumption | (simp; omega) | (simp_all; done))
  case i36_3 => (first | omega | assumption | (simp; omega) | (simp_all; done))
 obtain rfl : k0 = e.claims.length := by omega
 have hI0 : ¬ (e.claims.length : Int) < (e.claims.length : Int) := by omega
 rw [List.drop_length] at hL0
 simp only [bgL] at hL0
 refine awN ?_
 simp only [(id F9), seval, cEst, cN3, hI0]
 repeat refine ob ?_
 refine awF ?_
 refine awQ ?_
 simp only [(id F9), seval]
 by_cases hr : ((p.a / 8 % 4 : Nat) : Int) = 0
 ·
  have yhr : p.a / 8 % 4 = 0 := by omega
  have w8 : IntKind.u16.wrap ((p.a : Int).tdiv 8) = ((p.a / 8 : Nat) : Int) := by have := wr16 (p.a / 8) (by omega); rw [← this]; norm_cast
  have w9 : ((p.a / 8 : Nat) : Int).tmod 4 = ((p.a / 8 % 4 : Nat) : Int) := by norm_cast
  refine awN ?_
  simp only [(id F9), seval, cEst, cN3, hI0, hr, yhr, w8, w9]
  repeat refine ob ?_
  refine awT ?_
  have wa : IntKind.u16.wrap ((p.a : Int).tdiv 32) = ((p.a / 32 : Nat) : Int) := by have := wr16 (p.a / 32) (by omega); rw [← this]; norm_cast
  have wb : ((p.a / 32 : Nat) : Int).tmod 3 = ((p.a / 32 % 3 : Nat) : Int) := by norm_cast
  refine awN ?_
  simp only [(id F9), seval, cEst, cN3, hI0, hr, yhr, wa, wb]
  repeat refine ob ?_
  by_cases z0 : ((p.a / 32 % 3 : Nat) : Int) = 0
  ·
   have yz0 : p.a / 32 % 3 = 0 := by omega
   have wc : IntKind.u16.wrap ((p.a : Int).tdiv 96) = ((p.a / 96 : Nat) : Int) := by have := wr16 (p.a / 96) (by omega); rw [← this]; norm_cast
   have wd : ((p.a / 96 : Nat) : Int).tmod 7 = ((p.a / 96 % 7 : Nat) : Int) := by norm_cast
   refine awD (scT 0 11 (scq [22, 25, 26, 28, 31, 32] .nil)) [none, none, none, none, none, none, none, none, none, none, none, none, none, none, none, none, none] ?_
   simp only [(id F9), seval, cEst, cN3, hI0, hr, yhr, z0, yz0, wc, wd, cRat]
   repeat refine ob ?_
   refine ⟨_, (aWhole ((p.a / 96 % 7 : Nat) : Int) (by omega) (by omega)), rfl, ?_⟩
   try unfold Later
   try simp only [(id F9), seval, cEst, cN3, hI0, hr, yhr, z0, yz0, wc, wd, cRat]
   repeat refine ob ?_
   refine awp_pubc 90 11 0 (by rfl) (by rfl) (by rfl) (by decide) (by show (5 : Nat) ≠ 0; decide) (by show (1 : Nat) ≠ 0; decide) rfl ?_
   refine awp_pubc 2063 11 1 (by rfl) (by rfl) (by rfl) (by decide) (by show (5 : Nat) ≠ 0; decide) (by show (1 : Nat) ≠ 0; decide) rfl ?_
   refine awp_pubc 3063 11 2 (by rfl) (by rfl) (by rfl) (by decide) (by show (5 : Nat) ≠ 0; decide) (by show (1 : Nat) ≠ 0; decide) rfl ?_
   refine awp_pub (t := 5) (by rfl) (by rfl) (by decide) (by rfl) ?_
   simp only [(id F9), seval]
   refine awN ?_
   simp only [(id F9), seval, cEst, cN3, hI0, hr, yhr, z0, yz0, flat_pure cAgr_pure, flat_pure cPart_pure]
   repeat refine ob ?_
   refine awX ?_
   simp only [(id F9), seval, flat_pure cAgr_pure, flat_pure cPart_pure]
   simp [bgN, ← hL0, bgT, T3.put, cAgr, flat_append, flat_cons, flat_nil, cTier, cPart, cRat, pure_append, pureCs, pureC, flat_pure cAgr_pure, flat_pure cPart_pure, yhr, yz0]
  have yz0 : ¬ p.a / 32 % 3 = 0 := by omega
  by_cases z1 : ((p.a / 32 % 3 : Nat) : Int) = 1
  ·
   have yz1 : p.a / 32 % 3 = 1 := by omega
   have wc : IntKind.u16.wrap ((p.a : Int).tdiv 96) = ((p.a / 96 : Nat) : Int) := by have := wr16 (p.a / 96) (by omega); rw [← this]; norm_cast
   have wd : ((p.a / 96 : Nat) : Int).tmod 7 = ((p.a / 96 % 7 : Nat) : Int) := by norm_cast
   refine awD (scT 0 11 (scq [22, 25, 26, 28, 31, 32] .nil)) [none, none, none, none, none, none, none, none, none, none, none, none, none, none, none, none, none] ?_
   simp only [(id F9), seval, cEst, cN3, hI0, hr, yhr, z0, yz0, z1, yz1, wc, wd, cRat]
   repeat refine ob ?_
   refine ⟨_, (aWhole ((p.a / 96 % 7 : Nat) : Int) (by omega) (by omega)), rfl, ?_⟩
   try unfold Later
   try simp only [(id F9), seval, cEst, cN3, hI0, hr, yhr, z0, yz0, z1, yz1, wc, wd, cRat]
   repeat refine ob ?_
   refine awp_pubc 1063 11 0 (by rfl) (by rfl) (by rfl) (by decide) (by show (5 : Nat) ≠ 0; decide) (by show (1 : Nat) ≠ 0; decide) rfl ?_
   refine awp_pubc 90 11 1 (by rfl) (by rfl) (by rfl) (by decide) (by show (5 : Nat) ≠ 0; decide) (by show (1 : Nat) ≠ 0; decide) rfl ?_
   refine awp_pubc 3063 11 2 (by rfl) (by rfl) (by rfl) (by decide) (by show (5 : Nat) ≠ 0; decide) (by show (1 : Nat) ≠ 0; decide) rfl ?_
   refine awp_pub (t := 5) (by rfl) (by rfl) (by decide) (by rfl) ?_
   simp only [(id F9), seval]
   refine awN ?_
   simp only [(id F9), seval, cEst, cN3, hI0, hr, yhr, z0, yz0, z1, yz1, flat_pure cAgr_pure, flat_pure cPart_pure]
   repeat refine ob ?_
   refine awX ?_
   simp only [(id F9), seval, flat_pure cAgr_pure, flat_pure cPart_pure]
   simp [bgN, ← hL0, bgT, T3.put, cAgr, flat_append, flat_cons, flat_nil, cTier, cPart, cRat, pure_append, pureCs, pureC, flat_pure cAgr_pure, flat_pure cPart_pure, yhr, yz0, yz1]
  have yz2 : p.a / 32 % 3 = 2 := by omega
  have zi2 : ((p.a / 32 % 3 : Nat) : Int) = 2 := by omega
  have wc : IntKind.u16.wrap ((p.a : Int).tdiv 96) = ((p.a / 96 : Nat) : Int) := by have := wr16 (p.a / 96) (by omega); rw [← this]; norm_cast
  have wd : ((p.a / 96 : Nat) : Int).tmod 7 = ((p.a / 96 % 7 : Nat) : Int) := by norm_cast
  refine awD (scT 0 11 (scq [22, 25, 26, 28, 31, 32] .nil)) [none, none, none, none, none, none, none, none, none, none, none, none, none, none, none, none, none] ?_
  simp only [(id F9), seval, cEst, cN3, hI0, hr, yhr, z0, yz0, z1, yz2, zi2, wc, wd, cRat]
  repeat refine ob ?_
  refine ⟨_, (aWhole ((p.a / 96 % 7 : Nat) : Int) (by omega) (by omega)), rfl, ?_⟩
  try unfold Later
  try simp only [(id F9), seval, cEst, cN3, hI0, hr, yhr, z0, yz0, z1, yz2, zi2, wc, wd, cRat]
  repeat refine ob ?_
  refine awp_pubc 1063 11 0 (by rfl) (by rfl) (by rfl) (by decide) (by show (5 : Nat) ≠ 0; decide) (by show (1 : Nat) ≠ 0; decide) rfl ?_
  refine awp_pubc 2063 11 1 (by rfl) (by rfl) (by rfl) (by decide) (by show (5 : Nat) ≠ 0; decide) (by show (1 : Nat) ≠ 0; decide) rfl ?_
  refine awp_pubc 90 11 2 (by rfl) (by rfl) (by rfl) (by decide) (by show (5 : Nat) ≠ 0; decide) (by show (1 : Nat) ≠ 0; decide) rfl ?_
  refine awp_pub (t := 5) (by rfl) (by rfl) (by decide) (by rfl) ?_
  simp only [(id F9), seval]
  refine awN ?_
  simp only [(id F9), seval, cEst, cN3, hI0, hr, yhr, z0, yz0, z1, yz2, zi2, flat_pure cAgr_pure, flat_pure cPart_pure]
  repeat refine ob ?_
  refine awX ?_
  simp only [(id F9), seval, flat_pure cAgr_pure, flat_pure cPart_pure]
  simp [bgN, ← hL0, bgT, T3.put, cAgr, flat_append, flat_cons, flat_nil, cTier, cPart, cRat, pure_append, pureCs, pureC, flat_pure cAgr_pure, flat_pure cPart_pure, yhr, yz0, yz2]
 have yhr : ¬ p.a / 8 % 4 = 0 := by omega
 have w8 : IntKind.u16.wrap ((p.a : Int).tdiv 8) = ((p.a / 8 : Nat) : Int) := by have := wr16 (p.a / 8) (by omega); rw [← this]; norm_cast
 have w9 : ((p.a / 8 : Nat) : Int).tmod 4 = ((p.a / 8 % 4 : Nat) : Int) := by norm_cast
 refine awN ?_
 simp only [(id F9), seval, cEst, cN3, hI0, hr, yhr, w8, w9]
 repeat refine ob ?_
 refine awF ?_
 refine awK ?_
 simp only [(id F9), seval]
 refine awp_pubc 1063 11 0 (by rfl) (by rfl) (by rfl) (by decide) (by show (5 : Nat) ≠ 0; decide) (by show (1 : Nat) ≠ 0; decide) rfl ?_
 refine awp_pubc 2063 11 1 (by rfl) (by rfl) (by rfl) (by decide) (by show (5 : Nat) ≠ 0; decide) (by show (1 : Nat) ≠ 0; decide) rfl ?_
 refine awp_pubc 3063 11 2 (by rfl) (by rfl) (by rfl) (by decide) (by show (5 : Nat) ≠ 0; decide) (by show (1 : Nat) ≠ 0; decide) rfl ?_
 refine awp_pub (t := 5) (by rfl) (by rfl) (by decide) (by rfl) ?_
 simp only [(id F9), seval]
 refine awN ?_
 simp only [(id F9), seval, cEst, cN3, hI0, hr, yhr, flat_pure cAgr_pure, flat_pure cPart_pure]
 repeat refine ob ?_
 refine awX ?_
 simp only [(id F9), seval, flat_pure cAgr_pure, flat_pure cPart_pure]
 simp [bgN, ← hL0, bgT, T3.put, cAgr, flat_append, flat_cons, flat_nil, cTier, cPart, cRat, pure_append, pureCs, pureC, flat_pure cAgr_pure, flat_pure cPart_pure, yhr]
end Go.Proofs.YtokmkopihhnggaaGreatDoor
