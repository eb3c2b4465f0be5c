/- slices.ContainsFunc at tiers, with the closure of waterfall.checkAgreement; walked by the abstract machine. -/
import Derived.Test.YtokmkopihhnggaaDoorAbGM
import Derived.Shelf.Sort.Plain
import Derived.Shelf.Slices.CompactI
import Derived.Shelf.Slices.In.SortNone
import Derived.Test.YtokmkopihhnggaaDoorProg
import Derived.Sort.OwnSortedInts
import Derived.Lib.RowBridge
set_option linter.unusedVariables false
set_option linter.unusedSimpArgs false
set_option linter.defProp false
set_option linter.unnecessarySimpa false
section
/- slices.ContainsFunc at tiers, with the closure of waterfall.checkAgreement; walked by the abstract machine. -/
namespace Go.Proofs.YtokmkopihhnggaaDoor
open Go Go.RowKit
def longT (t : List GPart) : Bool := decide (24 < t.length)
def idxT (ts : List (List GPart)) (k : Nat) : Int := match ts with
  | [] => -1
  | t :: ts => if longT t then (k : Int) else idxT ts (k + 1)
theorem idxT_ge (ts : List (List GPart)) (k : Nat) : decide (0 ≤ idxT ts k) = ts.any longT := by
  induction ts generalizing k with
  | nil => rfl
  | cons t ts ih =>
    simp only [idxT, List.any_cons]
    by_cases h : longT t = true
    · simp [h]
    simp only [h, if_false]
    simpa using ih (k + 1)
def clos : C := .lit (.func (.func 29) #[] #[])
def F_waterfall_checkAgreement_1 := And.intro zS (tf0)
theorem clos_A (t : List GPart) (h : t.length ≤ 1000000000000) : ACall Tryd.prog 29 [.one (.sh 5 t.length (flat cPart t))] (one (.bool (longT t))) := by
 unfold longT
 cases hl : decide (24 < t.length)
 ·
  have hI : ¬ (24 : Int) < (t.length : Int) := by have := of_decide_eq_false hl; omega
  refine acall_of Tryd.func29 rfl (by decide) (N := 6) rfl (by simp) (R := [.tmp 2]) rfl fun en k0 => ?_
  refine awR [] [none] ?_
  simp only [(id F_waterfall_checkAgreement_1), seval]
  refine awR [] [none, none, none, none] ?_
  simp only [(id F_waterfall_checkAgreement_1), seval, hI]
  refine awX ?_
  simp only [(id F_waterfall_checkAgreement_1), seval]
 have hI : (24 : Int) < (t.length : Int) := by have := of_decide_eq_true hl; omega
 refine acall_of Tryd.func29 rfl (by decide) (N := 6) rfl (by simp) (R := [.tmp 2]) rfl fun en k0 => ?_
 refine awR [] [none] ?_
 simp only [(id F_waterfall_checkAgreement_1), seval]
 refine awR [] [none, none, none, none] ?_
 simp only [(id F_waterfall_checkAgreement_1), seval, hI]
 refine awX ?_
 simp only [(id F_waterfall_checkAgreement_1), seval]
def F_idxF := And.intro zS (And.intro tf1 (And.intro tf2 (tf3)))
theorem IndexFunc_A (ts : List (List GPart)) (hn : ts.length ≤ 1000000000000) (ht : ∀ t ∈ ts, t.length ≤ 1000000000000) :
  ACall Tryd.prog 43 [.one (.sh 1 ts.length (flat cTier ts)), .one clos] (one (.int .i64 (idxT ts 0))) := by
 refine acall_of Tryd.func43 rfl (by decide) (N := 19) rfl (by simp) (R := [.tmp 4]) rfl fun en k0 => ?_
 refine awR [] [none] ?_
 simp only [(id F_idxF), seval]
 refine awR [] [none, none, none] ?_
 simp only [(id F_idxF), seval]
 refine awp_keep [0, 1, 7, 8] [] ?_
 simp only [Later, (id F_idxF), seval]
 repeat' first|apply awS|apply awB
 refine awp_loopw (fun n st => ∃ k nx, k ≤ ts.length ∧ n = ts.length - k ∧ idxT (ts.drop k) k = idxT ts 0 ∧ st = ⟨mkT [(0, .val (.one (.sh 1 ts.length (flat cTier ts)))), (1, .val (.one clos)), (7, one (.int .i64 ts.length)), (8, one (.int .i64 k))], mkH [], nx, 0⟩) ts.length ⟨0, _, by omega, by omega, rfl, rfl⟩ ?_
 rintro n st ⟨k, nx, hk, rfl, hL, rfl⟩
 by_cases hlt : k < ts.length
 ·
  have hI : (k : Int) < (ts.length : Int) := by omega
  have hat := flat_at cTier_len ts k hlt
  rw [List.drop_eq_getElem_cons hlt] at hL
  have hm := ht ts[k] (List.getElem_mem hlt)
  rw [Nat.mul_one] at hat
  generalize ts[k] = t at *
  have hC := clos_A t hm
  simp only [idxT] at hL
  cases hlo : longT t
  ·
   rw [hlo] at hL hC
   refine awR [] [none] ?_
   simp only [(id F_idxF), seval, hI]
   refine awT ?_
   refine awK ?_
   simp only [(id F_idxF), seval]
   refine awR [] [none, none] ?_
   simp only [(id F_idxF), seval]
   refine awR [] [none, none, none, none, none, none] ?_
   simp only [(id F_idxF), seval, hat, cTier, clos]
   repeat refine ob ?_
   refine ⟨flat_pure cPart_pure t, _, hC, rfl, ?_⟩
   simp only [Later, (id F_idxF), seval]
   refine awF ?_
   refine awK ?_
   simp only [(id F_idxF), seval]
   refine awR [] [none, none] ?_
   simp only [(id F_idxF), seval]
   repeat refine ob ?_
   refine ⟨_, wk_keep [0, 1, 7, 8] [], ts.length - (k + 1), by omega, k + 1, nx, by omega, rfl, ?_, ?_⟩
   ·
    simpa using hL
   simp only [(id F_idxF), seval]
   try rfl
  rw [hlo] at hL hC
  simp only [if_true] at hL
  refine awR [] [none] ?_
  simp only [(id F_idxF), seval, hI]
  refine awT ?_
  refine awK ?_
  simp only [(id F_idxF), seval]
  refine awR [] [none, none] ?_
  simp only [(id F_idxF), seval]
  refine awR [] [none, none, none, none, none, none] ?_
  simp only [(id F_idxF), seval, hat, cTier, clos]
  repeat refine ob ?_
  refine ⟨flat_pure cPart_pure t, _, hC, rfl, ?_⟩
  simp only [Later, (id F_idxF), seval]
  refine awT ?_
  refine awR [] [none, none] ?_
  simp only [(id F_idxF), seval]
  refine awX ?_
  simp only [(id F_idxF), seval, ← hL]
 obtain rfl : k = ts.length := by omega
 have hI : ¬ (ts.length : Int) < (ts.length : Int) := by omega
 rw [List.drop_length] at hL
 simp only [idxT] at hL
 refine awR [] [none] ?_
 simp only [(id F_idxF), seval, hI]
 refine awF ?_
 refine awQ ?_
 simp only [(id F_idxF), seval]
 refine awR [] [none] ?_
 simp only [(id F_idxF), seval]
 refine awX ?_
 simp only [(id F_idxF), seval, ← hL]
theorem ContainsFunc_A (ts : List (List GPart)) (hn : ts.length ≤ 1000000000000) (ht : ∀ t ∈ ts, t.length ≤ 1000000000000) :
  ACall Tryd.prog 28 [.one (.sh 1 ts.length (flat cTier ts)), .one clos] (one (.bool (ts.any longT))) := by
 have hI := IndexFunc_A ts hn ht
 rw [← idxT_ge ts 0]
 refine acall_of Tryd.func28 rfl (by decide) (N := 9) rfl (by simp) (R := [.tmp 4]) rfl fun en k0 => ?_
 refine awR [] [none] ?_
 simp only [(id zS), seval]
 refine awR [] [none, none, none, none, none] ?_
 simp only [(id zS), seval, clos]
 refine ⟨flat_pure cTier_pure ts, _, hI, rfl, ?_⟩
 simp only [Later, (id zS), seval]
 refine awX ?_
 simp only [(id zS), seval]
end Go.Proofs.YtokmkopihhnggaaDoor
end
section
/- slices.Grow and slices.Concat at parts; walked by the abstract machine. -/
namespace Go.Proofs.YtokmkopihhnggaaDoor
open Go Go.RowKit
theorem awp_cutA {P : Program} {e : En} {k0 : Kx} {N : Nat} {st : St} {Q : Exit → St → Prop} {x y : Code} (M : St → Prop) (h : Awp P e k0 N x (Athen (fun st' => ∃ st2, Wk e k0 N st' st2 ∧ M st2) Q) st) (h2 : ∀ st2, M st2 → Awp P e k0 N y Q st2) : Awp P e k0 N x (Athen (Awp P e k0 N y Q) Q) st := by
  refine awp_mono h fun ex st' hq => ?_
  cases ex with
  | normal =>
    obtain ⟨st2, h1, h3⟩ := hq
    exact awp_wk h1 (h2 st2 h3)
  | _ => exact hq
def F_groF := And.intro zS (And.intro tf0 (And.intro tf4 (tf5)))
theorem Grow_I (m nx0 : Nat) (hm : m ≤ 1000000000000) : ACallI Tryd.prog 44 [.one (.lit (.slice none 0 0)), .one (.lit (.int .i64 m))] (fun _ => none) nx0
   (fun res H' nx' => ∃ s, res = .val (.one (.own 33 s 0 5)) ∧ H' = up (fun _ => none) 33 (some ⟨s, 73, 5, 0, []⟩) ∧ nx' = s + 1) := by
 have n1 : ¬ (m : Int) < 0 := by omega
 have n2 : ((0 : Nat) : Int) - ((0 : Nat) : Int) = 0 := by omega
 have n3 : (m : Int) - 0 = m := by omega
 refine acallI_of 8 Tryd.func44 rfl (by decide) (N := 27) rfl (by simp) (Rl := [.tmp 4]) rfl fun en k0 => ?_
 refine awR [] [none] ?_
 simp only [(id F_groF), seval]
 refine awR [] [none, none] ?_
 simp only [(id F_groF), seval, n1]
 refine awF ?_
 refine awK ?_
 simp only [(id F_groF), seval]
 refine awR [] [none, none, none, none, none, none, none, none] ?_
 simp only [(id F_groF), seval, n2, n3]
 repeat refine ob ?_
 by_cases h0 : 0 < m
 ·
  have hI : (0 : Int) < (m : Int) := by omega
  refine awR [] [none, none] ?_
  simp only [(id F_groF), seval, hI]
  refine awT ?_
  refine awR [] [none, none, none, none, none, none, none, none, none, none] ?_
  simp only [(id F_groF), seval]
  repeat refine ob ?_
  refine awp_keep [0] [33] ?_
  simp only [Later, (id F_groF), seval]
  refine awR [] [none, none] ?_
  simp only [(id F_groF), seval]
  refine awX ?_
  simp only [(id F_groF), seval]
  exact ⟨_, rfl, rfl, rfl⟩
 have hI : ¬ (0 : Int) < (m : Int) := by omega
 refine awR [] [none, none] ?_
 simp only [(id F_groF), seval, hI]
 refine awF ?_
 refine awK ?_
 simp only [(id F_groF), seval]
 refine awR [] [none, none] ?_
 simp only [(id F_groF), seval]
 repeat' first|apply awS|apply awB
 refine awp_keep [4] [] ?_
 refine awp_nil 4 33 73 5 (by decide) (by rfl) ?_
 refine awX ?_
 simp only [(id F_groF), seval]
 exact ⟨_, rfl, rfl, rfl⟩
def F_catF := And.intro zS (And.intro tf1 (And.intro tf2 (And.intro tf0 (And.intro tf3 (tf5)))))
theorem Concat_A (ts : List (List GPart)) (hn : ts.length ≤ 1000000000000) (ht : ts.flatten.length ≤ 1000000000000) :
  ACall Tryd.prog 30 [.one (.sh 1 ts.length (flat cTier ts))] (.val (.one (.sh 5 ts.flatten.length (flat cPart ts.flatten)))) := by
 refine acall_of Tryd.func30 rfl (by decide) (N := 36) rfl (by simp) (R := [.tmp 2]) rfl fun en k0 => ?_
 refine awR [] [none] ?_
 simp only [(id F_catF), seval]
 refine awR [] [none] ?_
 simp only [(id F_catF), seval]
 refine awR [] [none, none, none] ?_
 simp only [(id F_catF), seval]
 refine awp_keep [0, 3, 9, 10, 11] [] ?_
 simp only [Later, (id F_catF), seval]
 refine awp_cutA (M := fun st => ∃ nx, st = ⟨mkT [(0, .val (.one (.sh 1 ts.length (flat cTier ts)))), (3, one (.int .i64 (ts.flatten.length : Int)))], fun _ => none, nx, 0⟩) ?_ ?_
 ·
  repeat' first|apply awS|apply awB
  refine awp_loopw (fun n st => ∃ k nx D, k ≤ ts.length ∧ n = ts.length - k ∧ D ++ (ts.drop k).flatten = ts.flatten ∧ st = ⟨mkT [(0, .val (.one (.sh 1 ts.length (flat cTier ts)))), (3, one (.int .i64 (D.length : Int))), (9, .val (.one (.sh 1 ts.length (flat cTier ts)))), (10, one (.int .i64 ts.length)), (11, one (.int .i64 k))], mkH [], nx, 0⟩) ts.length ⟨0, _, [], by omega, by omega, rfl, rfl⟩ ?_
  rintro n st ⟨k, nx, D, hk, rfl, hD, rfl⟩
  by_cases hlt : k < ts.length
  ·
   have hI : (k : Int) < (ts.length : Int) := by omega
   have hat := flat_at cTier_len ts k hlt
   rw [List.drop_eq_getElem_cons hlt, List.flatten_cons] at hD
   rw [Nat.mul_one] at hat
   generalize ts[k] = t at *
   have hB := congrArg List.length hD
   simp only [List.length_append] at hB
   have hI2 : ¬ (D.length : Int) + (t.length : Int) < 0 := by omega
   refine awR [] [none] ?_
   simp only [(id F_catF), seval, hI]
   refine awT ?_
   refine awK ?_
   simp only [(id F_catF), seval]
   refine awR [] [none, none, none] ?_
   simp only [(id F_catF), seval, hat, cTier]
   repeat refine ob ?_
   refine awR [] [none, none, none, none, none] ?_
   simp only [(id F_catF), seval]
   repeat refine ob ?_
   refine awR [] [none, none] ?_
   simp only [(id F_catF), seval, hI2]
   refine awF ?_
   refine awK ?_
   simp only [(id F_catF), seval]
   refine awR [] [none, none] ?_
   simp only [(id F_catF), seval]
   repeat refine ob ?_
   refine ⟨_, wk_keep [0, 3, 9, 10, 11] [], ts.length - (k + 1), by omega, k + 1, nx, D ++ t, by omega, rfl, ?_, ?_⟩
   ·
    rw [List.append_assoc]; exact hD
   simp only [(id F_catF), seval, List.length_append, Int.natCast_add]
   try rfl
  obtain rfl : k = ts.length := by omega
  have hI : ¬ (ts.length : Int) < (ts.length : Int) := by omega
  rw [List.drop_length, List.flatten_nil, List.append_nil] at hD
  refine awR [] [none] ?_
  simp only [(id F_catF), seval, hI]
  refine awF ?_
  refine awQ ?_
  simp only [(id F_catF), seval]
  refine ⟨_, wk_keep [0, 3] [], nx, ?_⟩
  subst hD
  simp only [(id F_catF), seval]
 rintro st ⟨nx, rfl⟩
 refine awR [24] [none, none, none] ?_
 simp only [(id F_catF), seval]
 refine ⟨_, Grow_I ts.flatten.length nx ht, ?_⟩
 rintro res H nx ⟨s, rfl, rfl, rfl⟩
 simp only [(id F_catF), seval]
 refine awR [] [none, none, none] ?_
 simp only [(id F_catF), seval]
 refine awp_keep [6, 25, 26, 27] [33] ?_
 simp only [Later, (id F_catF), seval]
 repeat' first|apply awS|apply awB
 refine awp_loopw (fun n st => ∃ k nx s D, k ≤ ts.length ∧ n = ts.length - k ∧ D ++ (ts.drop k).flatten = ts.flatten ∧ st = ⟨mkT [(6, .val (.one (.own 33 s D.length 5))), (25, .val (.one (.sh 1 ts.length (flat cTier ts)))), (26, one (.int .i64 ts.length)), (27, one (.int .i64 k))], mkH [(33, ⟨s, 73, 5, D.length, flat cPart D⟩)], nx, 0⟩) ts.length ⟨0, _, s, [], by omega, by omega, rfl, rfl⟩ ?_
 rintro n st ⟨k, nx, s, D, hk, rfl, hD, rfl⟩
 by_cases hlt : k < ts.length
 ·
  have hI : (k : Int) < (ts.length : Int) := by omega
  have hat := flat_at cTier_len ts k hlt
  rw [List.drop_eq_getElem_cons hlt, List.flatten_cons] at hD
  rw [Nat.mul_one] at hat
  generalize ts[k] = t at *
  have hB := congrArg List.length hD
  simp only [List.length_append] at hB
  refine awR [] [none] ?_
  simp only [(id F_catF), seval, hI]
  refine awT ?_
  refine awK ?_
  simp only [(id F_catF), seval]
  refine awR [] [none, none, none] ?_
  simp only [(id F_catF), seval, hat, cTier]
  repeat refine ob ?_
  refine awR [] [none, none, none, none] ?_
  simp only [(id F_catF), seval]
  repeat refine ob ?_
  refine awR [] [none, none] ?_
  simp only [(id F_catF), seval]
  repeat refine ob ?_
  refine ⟨_, wk_keep [6, 25, 26, 27] [33], ts.length - (k + 1), by omega, k + 1, nx + 1, nx, D ++ t, by omega, rfl, ?_, ?_⟩
  ·
   rw [List.append_assoc]; exact hD
  simp only [(id F_catF), seval, List.length_append, Int.natCast_add, flat_append]
  try rfl
 obtain rfl : k = ts.length := by omega
 have hI : ¬ (ts.length : Int) < (ts.length : Int) := by omega
 rw [List.drop_length, List.flatten_nil, List.append_nil] at hD
 subst hD
 refine awR [] [none] ?_
 simp only [(id F_catF), seval, hI]
 refine awF ?_
 refine awQ ?_
 simp only [(id F_catF), seval]
 refine awR [] [none, none] ?_
 simp only [(id F_catF), seval]
 refine awX ?_
 simp only [(id F_catF), seval]
 exact flat_pure cPart_pure _
end Go.Proofs.YtokmkopihhnggaaDoor
end
section
/- Contracts of the kit's shelf, laid at this translation by the kit's own tool: slices.Sort and slices.Compact at []int. -/
namespace Go.Proofs
open Go.Shelf
def Tryd.lays189_ren : Go.Shelf.Ren := ⟨fun | 189 => 31 | 125 => 46 | 257 => 45 | 128 => 70 | 129 => 71 | 294 => 61 | 295 => 62 | 296 => 63 | 297 => 64 | 298 => 65 | 299 => 66 | 216 => 67 | 300 => 68 | 301 => 69 | 328 => 78 | 329 => 79 | 330 => 80 | 331 => 81 | 332 => 82 | 215 => 83 | 343 => 87 | n => n, fun | 28 => 59 | 3 => 3 | 46 => 88 | 0 => 0 | 51 => 87 | 53 => 67 | 4 => 4 | 183 => 115 | 182 => 114 | 131 => 120 | 5 => 5 | 9 => 9 | 218 => 128 | 222 => 132 | 228 => 136 | 229 => 137 | n => n, fun | n => n⟩
theorem Tryd.lays189 : Go.Proofs.Lays.n189 Tryd.prog Tryd.lays189_ren := {
  mixed := by kernel_rfl
  f125 := Tryd.func46.trans (congrArg some (by kernel_rfl))
  f128 := Tryd.func70.trans (congrArg some (by kernel_rfl))
  f129 := Tryd.func71.trans (congrArg some (by kernel_rfl))
  f189 := Tryd.func31.trans (congrArg some (by kernel_rfl))
  f215 := Tryd.func83.trans (congrArg some (by kernel_rfl))
  f216 := Tryd.func67.trans (congrArg some (by kernel_rfl))
  f257 := Tryd.func45.trans (congrArg some (by kernel_rfl))
  f294 := Tryd.func61.trans (congrArg some (by kernel_rfl))
  f295 := Tryd.func62.trans (congrArg some (by kernel_rfl))
  f296 := Tryd.func63.trans (congrArg some (by kernel_rfl))
  f297 := Tryd.func64.trans (congrArg some (by kernel_rfl))
  f298 := Tryd.func65.trans (congrArg some (by kernel_rfl))
  f299 := Tryd.func66.trans (congrArg some (by kernel_rfl))
  f300 := Tryd.func68.trans (congrArg some (by kernel_rfl))
  f301 := Tryd.func69.trans (congrArg some (by kernel_rfl))
  f328 := Tryd.func78.trans (congrArg some (by kernel_rfl))
  f329 := Tryd.func79.trans (congrArg some (by kernel_rfl))
  f330 := Tryd.func80.trans (congrArg some (by kernel_rfl))
  f331 := Tryd.func81.trans (congrArg some (by kernel_rfl))
  f332 := Tryd.func82.trans (congrArg some (by kernel_rfl))
  f343 := Tryd.func87.trans (congrArg some (by kernel_rfl))
  t0 := Tryd.underlying0
  a0 := Tryd.isAgg0
  z0 := Tryd.sizeOf0
  v0 := Tryd.zeroValue0
  t3 := Tryd.underlying3
  a3 := Tryd.isAgg3
  z3 := Tryd.sizeOf3
  v3 := Tryd.zeroValue3
  t4 := Tryd.underlying4
  a4 := Tryd.isAgg4
  z4 := Tryd.sizeOf4
  v4 := Tryd.zeroValue4
  t5 := Tryd.underlying5
  a5 := Tryd.isAgg5
  z5 := Tryd.sizeOf5
  v5 := Tryd.zeroValue5
  t9 := Tryd.underlying9
  a9 := Tryd.isAgg9
  z9 := Tryd.sizeOf9
  v9 := Tryd.zeroValue9
  t28 := Tryd.underlying59
  a28 := Tryd.isAgg59
  z28 := Tryd.sizeOf59
  v28 := Tryd.zeroValue59
  t46 := Tryd.underlying88
  a46 := Tryd.isAgg88
  z46 := Tryd.sizeOf88
  v46 := Tryd.zeroValue88
  t51 := Tryd.underlying87
  a51 := Tryd.isAgg87
  z51 := Tryd.sizeOf87
  v51 := Tryd.zeroValue87
  t53 := Tryd.underlying67
  a53 := Tryd.isAgg67
  z53 := Tryd.sizeOf67
  v53 := Tryd.zeroValue67
  t131 := Tryd.underlying120
  a131 := Tryd.isAgg120
  z131 := Tryd.sizeOf120
  v131 := Tryd.zeroValue120
  t182 := Tryd.underlying114
  a182 := Tryd.isAgg114
  z182 := Tryd.sizeOf114
  v182 := Tryd.zeroValue114
  t183 := Tryd.underlying115
  a183 := Tryd.isAgg115
  z183 := Tryd.sizeOf115
  v183 := Tryd.zeroValue115
  t218 := Tryd.underlying128
  a218 := Tryd.isAgg128
  z218 := Tryd.sizeOf128
  v218 := Tryd.zeroValue128
  t222 := Tryd.underlying132
  a222 := Tryd.isAgg132
  z222 := Tryd.sizeOf132
  v222 := Tryd.zeroValue132
  t228 := Tryd.underlying136
  a228 := Tryd.isAgg136
  z228 := Tryd.sizeOf136
  v228 := Tryd.zeroValue136
  t229 := Tryd.underlying137
  a229 := Tryd.isAgg137
  z229 := Tryd.sizeOf137
  v229 := Tryd.zeroValue137 }
open Go.Sort Go.RowKit in
theorem Tryd.slices_Sort_int (blk off cap : Nat) (zs : List Int) (w : World) (hH : Holds (Value.int .i64) w blk off zs.toArray) (hblk : blk < w.heap.size) (hsz : zs.length < 4611686018427387904) :
    Calls Tryd.prog 31 #[.slice (some ⟨blk, off, none⟩) zs.length cap] w fun e w' =>
      e = .returned (.tuple #[]) ∧ ∃ n os, w' = grow (putRow (Value.int .i64) (Sort.ahead w n) blk off (zs.mergeSort fun x y => decide (x ≤ y)).toArray) os := Any.slices_Sort_int Tryd.lays189 blk off cap zs w hH hblk hsz
def Tryd.laysNm220_ren : Go.Shelf.Ren := ⟨fun | 20 => 32 | n => n, fun | 22 => 59 | 3 => 3 | 4 => 4 | 0 => 0 | n => n, fun | n => n⟩
theorem Tryd.laysNm220 : Go.Proofs.Lays2.n20 Tryd.prog Tryd.laysNm220_ren := {
  mixed := by kernel_rfl
  f20 := Tryd.func32.trans (congrArg some (by kernel_rfl))
  t0 := Tryd.underlying0
  a0 := Tryd.isAgg0
  z0 := Tryd.sizeOf0
  v0 := Tryd.zeroValue0
  t3 := Tryd.underlying3
  a3 := Tryd.isAgg3
  z3 := Tryd.sizeOf3
  v3 := Tryd.zeroValue3
  t4 := Tryd.underlying4
  a4 := Tryd.isAgg4
  z4 := Tryd.sizeOf4
  v4 := Tryd.zeroValue4
  t22 := Tryd.underlying59
  a22 := Tryd.isAgg59
  z22 := Tryd.sizeOf59
  v22 := Tryd.zeroValue59
  i3 := by kernel_rfl }
open Go.RowKit Go.Lib Go.Sort in
theorem Tryd.slices_Compact_int (blk off cap : Nat) (zs : List Int) (w : World) (hH : Holds (Value.int .i64) w blk off zs.toArray) (hsz : zs.length ≤ 9223372036854775807) (hcap : zs.length ≤ cap) :
    Calls Tryd.prog 32 #[.slice (some ⟨blk, off, none⟩) zs.length cap] w fun e w' => e = .returned (.slice (some ⟨blk, off, none⟩) (Lib.compact zs).length cap) ∧ ∃ q, w' = putRow (Value.int .i64) (Sort.ahead w q) blk off (Lib.compact zs ++ List.replicate (zs.length - (Lib.compact zs).length) 0).toArray := Any.slices_Compact_int Tryd.laysNm220 blk off cap zs w hH hsz hcap
open Go.RowKit Go.Lib Go.Sort in
theorem Tryd.slices_Compact_int_empty (a : Option Addr) (cap : Nat) (w : World) :
    Calls Tryd.prog 32 #[.slice a 0 cap] w fun e w' => e = .returned (.slice a 0 cap) ∧ w' = w := Any.slices_Compact_int_empty Tryd.laysNm220 a cap w
open Go.RowKit Go.Sort in
theorem Tryd.slices_Sort_int_none (p : Option Addr) (cap : Nat) (w : World) :
    Calls Tryd.prog 31 #[.slice p 0 cap] w fun e w' => e = .returned (.tuple #[]) ∧ w' = w := Any.slices_Sort_int_none Tryd.lays189 p cap w
end Go.Proofs
end
section
/- slices.Sort and slices.Compact at []int as contracts of the abstract machine. -/
namespace Go.Proofs.YtokmkopihhnggaaDoor
open Go Go.RowKit
def sorted (zs : List Int) : List Int := zs.mergeSort fun x y => decide (x ≤ y)
theorem sorted_length (zs : List Int) : (sorted zs).length = zs.length := by simp [sorted]
theorem denVs_cI {κ : Kx} : ∀ {xs : List Value} {zs : List Int}, denVs κ xs (flat cI zs) → xs = zs.map (Value.int .i64)
  | [], [], _ => rfl
  | x :: xs, z :: zs, h => by
    rw [flat_cons] at h
    simp only [cI, List.cons_append, List.nil_append, denVs, den] at h
    rw [h.1.1, denVs_cI h.2, List.map_cons]
  | [], z :: zs, h => by rw [flat_cons] at h; exact h.elim
  | x :: xs, [], h => h.elim
theorem cI_denVs {κ : Kx} : ∀ {zs : List Int}, denVs κ (zs.map (Value.int .i64)) (flat cI zs)
  | [] => trivial
  | z :: zs => by
    rw [flat_cons]
    simp only [cI, List.cons_append, List.nil_append, denVs, den, List.map_cons]
    exact ⟨⟨trivial, rfl⟩, cI_denVs⟩
theorem Sort_I (H : Hp) (nx nm s : Nat) (E : TypeId) (zs : List Int) (hH : H nm = some ⟨s, E, 1, zs.length, flat cI zs⟩) (hn : zs.length < 4611686018427387904) :
    ACallI Tryd.prog 31 [.one (.own nm s zs.length 1)] H nx (fun res H' nx' => res = .tup [] ∧ H' = up H nm (some ⟨s, E, 1, zs.length, flat cI (sorted zs)⟩) ∧ nx' = nx) := by
  refine ⟨⟨_, Tryd.func31, by decide, by rfl⟩, fun e σ w vs hW hvs => ?_⟩
  match vs, hvs with
  | [v], ⟨hv, _⟩ =>
    simp only [den1, den] at hv
    obtain ⟨f1, f2, f3⟩ := hv.2.2 _ hH rfl
    have hv' : v = σ nm := f1
    subst hv'
    obtain ⟨_, g2, xs, g3, g4⟩ := hW.rowOf hH (.inl (by simp))
    have hxs := denVs_cI g4
    subst hxs
    have fin : ∀ w', w.grownBy w' (σ nm).ownBlock → w'.ownsRow e.w0.heap.size E 1 (σ nm) zs.length ((sorted zs).map (Value.int .i64)) →
        ∃ v res H' nx' σ', Ending.returned (.tuple #[]) = .returned v ∧ RW e H' nx' σ' w' ∧ Ext (kx e H nx σ w) (kx e H' nx' σ' w') ∧ denA (kx e H' nx' σ' w') v res ∧ (res = .tup [] ∧ H' = up H nm (some ⟨s, E, 1, zs.length, flat cI (sorted zs)⟩) ∧ nx' = nx) := fun w' h1 h2 => by
      obtain ⟨k1, k2⟩ := hW.upd hH h1 (cs := flat cI (sorted zs)) (by simp) (by simp [flat_length cI_len, sorted_length]) h2 cI_denVs
      exact ⟨_, .tup [], _, nx, σ, rfl, k1, k2, ⟨[], rfl, trivial⟩, rfl, rfl, rfl⟩
    rcases g3.2 with ⟨q2, q1⟩ | ⟨g, cap, cur, q1, q2, q3, q4, q5, q6, q7⟩
    · have hz : zs = [] := List.eq_nil_of_length_eq_zero q1
      subst hz
      show Calls _ _ #[σ nm] w _
      rw [q2]
      refine (Tryd.slices_Sort_int_none none 0 w).mono ?_
      rintro ex w' ⟨rfl, rfl⟩
      refine fin _ (by rw [q2]; exact ⟨rfl, rfl, rfl, Nat.le_refl _, fun _ _ _ => rfl⟩) ?_
      have hs0 : sorted [] = [] := by simp [sorted]
      rw [q2, hs0]; exact World.ownsRow_nil _ _ _ _
    have q7' : cur.toList.take zs.length = zs.map (Value.int .i64) := by simpa using q7
    show Calls _ _ #[σ nm] w _
    rw [q1]
    refine (Tryd.slices_Sort_int g 0 cap zs w (holds_of_blockI q3 q7') ?_ hn).mono ?_
    · exact (Array.getElem?_eq_some_iff.1 q3).1
    rintro ex w' ⟨rfl, n, os, rfl⟩
    refine fin _ (by rw [q1]; exact grownBy_sortedI _) ?_
    rw [q1]
    exact ownsRow_sortedI (sorted_length zs) q2 q3 q4 q5 q6
theorem Compact_I (d : Nat) (H : Hp) (nx nm s : Nat) (E : TypeId) (zs : List Int) (hH : H nm = some ⟨s, E, 1, zs.length, flat cI zs⟩) (hn : zs.length < 4611686018427387904) :
    ACallI Tryd.prog 32 [.one (.own nm s zs.length 1)] H nx (fun res H' nx' => res = .val (.one (.own d nx (Lib.compact zs).length 1)) ∧ H' = up (up H nm none) d (some ⟨nx, E, 1, (Lib.compact zs).length, flat cI (Lib.compact zs)⟩) ∧ nx' = nx + 1) := by
  refine ⟨⟨_, Tryd.func32, by decide, by rfl⟩, fun e σ w vs hW hvs => ?_⟩
  match vs, hvs with
  | [v], ⟨hv, _⟩ =>
    simp only [den1, den] at hv
    obtain ⟨f1, f2, f3⟩ := hv.2.2 _ hH rfl
    have hv' : v = σ nm := f1
    subst hv'
    obtain ⟨_, g2, xs, g3, g4⟩ := hW.rowOf hH (.inl (by simp))
    have hxs := denVs_cI g4
    subst hxs
    have hle := Lib.compact_length_le zs
    have fin : ∀ w' v' row, w.grownBy w' row → (∀ r, row = some r → obk (σ nm) = some r) → (∀ r, obk v' = some r → obk (σ nm) = some r) → w'.ownsRow e.w0.heap.size E 1 v' (Lib.compact zs).length ((Lib.compact zs).map (Value.int .i64)) →
        ∃ v res H' nx' σ', Ending.returned v' = .returned v ∧ RW e H' nx' σ' w' ∧ Ext (kx e H nx σ w) (kx e H' nx' σ' w') ∧ denA (kx e H' nx' σ' w') v res ∧ (res = .val (.one (.own d nx (Lib.compact zs).length 1)) ∧ H' = up (up H nm none) d (some ⟨nx, E, 1, (Lib.compact zs).length, flat cI (Lib.compact zs)⟩) ∧ nx' = nx + 1) := fun w' v' row h1 h2 h3 h4 => by
      obtain ⟨k1, k2⟩ := hW.new (nm0 := nm) (d := d) (row := row) h1 (B' := ⟨nx, E, 1, (Lib.compact zs).length, flat cI (Lib.compact zs)⟩) (v' := v') rfl (by simp) (by simp [flat_length cI_len]) (fun r hr => ⟨h2 r hr, _, hH⟩) (fun r hr => .inr ⟨h3 r hr, _, hH⟩) h4 cI_denVs
      have ho : v'.oneCell' = true := by rcases h4.2 with ⟨h, _⟩ | ⟨g, cap, cur, h, _⟩ <;> rw [h] <;> rfl
      exact ⟨_, .val (.one (.own d nx _ 1)), _, _, _, rfl, k1, k2, den_new_own d σ _ ho, rfl, rfl, rfl⟩
    rcases g3.2 with ⟨q2, q1⟩ | ⟨g, cap, cur, q1, q2, q3, q4, q5, q6, q7⟩
    · have hz : zs = [] := List.eq_nil_of_length_eq_zero q1
      subst hz
      show Calls _ _ #[σ nm] w _
      rw [q2]
      refine (Tryd.slices_Compact_int_empty none 0 w).mono ?_
      rintro ex w' ⟨rfl, rfl⟩
      exact fin _ _ none ⟨rfl, rfl, rfl, Nat.le_refl _, fun _ _ _ => rfl⟩ (by simp) (by simp [obk]) (World.ownsRow_nil _ _ _ _)
    have q7' : cur.toList.take zs.length = zs.map (Value.int .i64) := by simpa using q7
    show Calls _ _ #[σ nm] w _
    rw [q1]
    have q4' : zs.length ≤ cap := q4
    refine (Tryd.slices_Compact_int g 0 cap zs w (holds_of_blockI q3 q7') (by omega) q4').mono ?_
    rintro ex w' ⟨rfl, q, rfl⟩
    have hgr := grownBy_sortedI (w := w) (g := g) (n := q) (os := #[]) (Lib.compact zs ++ List.replicate (zs.length - (Lib.compact zs).length) 0).toArray
    have hp := heap_sortedI (w := w) (n := q) (os := #[]) (Lib.compact zs ++ List.replicate (zs.length - (Lib.compact zs).length) 0).toArray q3
    rw [Sort.grow_empty] at hgr hp
    refine fin _ _ (some g) hgr (fun r hr => ?_) (fun r hr => ?_) ⟨by simp, .inr ⟨g, cap, _, rfl, q2, hp, by omega, q5, ?_, ?_⟩⟩
    · obtain rfl := Option.some.inj hr; rw [q1]; rfl
    · rw [q1]; exact hr
    · simp [Sort.putCells]; simpa using q6
    have hcs : zs.length ≤ cur.size := by
      have : cur.size = cap * 1 := q6
      omega
    have hl : (Lib.compact zs ++ List.replicate (zs.length - (Lib.compact zs).length) 0).length = zs.length := by simp; omega
    have := take_putCellsI cur (Lib.compact zs ++ List.replicate (zs.length - (Lib.compact zs).length) 0) (by rw [hl]; exact hcs)
    rw [hl] at this
    rw [Nat.mul_one]
    have h2 : List.take (Lib.compact zs).length (List.take zs.length (Sort.putCells (Value.int .i64) 0 (Lib.compact zs ++ List.replicate (zs.length - (Lib.compact zs).length) 0).toArray cur).toList) = (Lib.compact zs).map (Value.int .i64) := by
      rw [this, List.map_append, List.take_left' (by simp)]
    rwa [List.take_take, Nat.min_eq_left hle] at h2
end Go.Proofs.YtokmkopihhnggaaDoor
end
section
/- waterfall.members; walked by the abstract machine. -/
namespace Go.Proofs.YtokmkopihhnggaaDoor
open Go Go.RowKit
def idsOf : List GPart → List Int
  | [] => []
  | p :: l => if p.claim = -1 then idsOf l else p.claim :: idsOf l
def mem (a : GAgr) : List Int := Lib.compact (sorted (idsOf a.flatten))
theorem Compact_I' (d : Nat) (H : Hp) (nx nm s n : Nat) (E : TypeId) (zs : List Int) (hnz : n = zs.length) (hH : H nm = some ⟨s, E, 1, n, flat cI zs⟩) (hn : zs.length < 4611686018427387904) :
    ACallI Tryd.prog 32 [.one (.own nm s n 1)] H nx (fun res H' nx' => res = .val (.one (.own d nx (Lib.compact zs).length 1)) ∧ H' = up (up H nm none) d (some ⟨nx, E, 1, (Lib.compact zs).length, flat cI (Lib.compact zs)⟩) ∧ nx' = nx + 1) := by
  subst hnz
  exact Compact_I d H nx nm s E zs hH hn
def F_mems := And.intro zS (And.intro tf6 (And.intro tf0 (And.intro tf7 (And.intro tf8 (And.intro tf9 (And.intro tf10 (And.intro tf11 (And.intro tf12 (And.intro tf5 (tf13))))))))))
theorem members_A (a : GAgr) (h1 : a.length ≤ 1000000000000) (h2 : a.flatten.length ≤ 1000000000000) :
  ACall Tryd.prog 17 [.agg (cAgr a)] (.val (.one (.sh 1 (mem a).length (flat cI (mem a))))) := by
 have hC := Concat_A a h1 h2
 unfold mem
 refine acall_of Tryd.func17 rfl (by decide) (N := 27) rfl (by simp) (R := [.tmp 2]) rfl fun en k0 => ?_
 refine awR [] [none, none] ?_
 simp only [(id F_mems), seval, cAgr]
 refine awR [] [none] ?_
 simp only [(id F_mems), seval]
 refine awR [] [none, none, none, none, none] ?_
 simp only [(id F_mems), seval, cAgr]
 refine ⟨flat_pure cTier_pure a, _, hC, by simp [pureCs, pureC, flat_pure cPart_pure], ?_⟩
 simp only [Later, (id F_mems), seval]
 refine awp_keep [3, 8, 9, 10] [] ?_
 simp only [Later, (id F_mems), seval]
 refine awp_nil 3 21 3 1 (by decide) (by rfl) ?_
 refine awp_keep [3, 8, 9, 10] [21] ?_
 simp only [Later, (id F_mems), seval]
 repeat' first|apply awS|apply awB
 refine awp_loopw (fun n st => ∃ k nx s D, k ≤ a.flatten.length ∧ n = a.flatten.length - k ∧ D.length ≤ k ∧ D ++ idsOf (a.flatten.drop k) = idsOf a.flatten ∧ st = ⟨mkT [(3, .val (.one (.own 21 s D.length 1))), (8, .val (.one (.sh 5 a.flatten.length (flat cPart a.flatten)))), (9, one (.int .i64 a.flatten.length)), (10, one (.int .i64 k))], mkH [(21, ⟨s, 3, 1, D.length, flat cI D⟩)], nx, 0⟩) a.flatten.length ⟨0, _, _, [], by omega, by omega, by simp, rfl, rfl⟩ ?_
 rintro n st ⟨k, nx, s, D, hk, rfl, hDl, hD, rfl⟩
 generalize a.flatten = l at *
 by_cases hlt : k < l.length
 ·
  have hI : (k : Int) < (l.length : Int) := by omega
  have hat := flat_at cPart_len l k hlt
  rw [List.drop_eq_getElem_cons hlt] at hD
  generalize l[k] = p at *
  simp only [idsOf] at hD
  by_cases hc : p.claim = -1
  ·
   repeat' first|apply awS|apply awB
   refine awR [] [none] ?_
   simp only [(id F_mems), seval, hI]
   refine awT ?_
   refine awK ?_
   simp only [(id F_mems), seval]
   refine awR [] [none, none, none, none] ?_
   simp only [(id F_mems), seval, hat, cPart]
   repeat refine ob ?_
   refine awR [] [none, none, none] ?_
   simp only [(id F_mems), seval, hc]
   refine awF ?_
   refine awK ?_
   simp only [(id F_mems), seval]
   refine awR [] [none, none] ?_
   simp only [(id F_mems), seval]
   repeat refine ob ?_
   refine ⟨_, wk_keep [3, 8, 9, 10] [21], l.length - (k + 1), by omega, k + 1, nx + 1, s, D, by omega, rfl, by omega, ?_, ?_⟩
   ·
    rw [if_pos hc] at hD; exact hD
   simp only [(id F_mems), seval]
   try rfl
  repeat' first|apply awS|apply awB
  refine awR [] [none] ?_
  simp only [(id F_mems), seval, hI]
  refine awT ?_
  refine awK ?_
  simp only [(id F_mems), seval]
  refine awR [] [none, none, none, none] ?_
  simp only [(id F_mems), seval, hat, cPart]
  repeat refine ob ?_
  refine awR [] [none, none, none] ?_
  simp only [(id F_mems), seval, hc]
  refine awT ?_
  refine awR [] [none, none, none, none, none, none] ?_
  simp only [(id F_mems), seval]
  repeat refine ob ?_
  refine awR [] [none, none] ?_
  simp only [(id F_mems), seval]
  repeat refine ob ?_
  refine ⟨_, wk_keep [3, 8, 9, 10] [21], l.length - (k + 1), by omega, k + 1, nx + 3, nx + 2, D ++ [p.claim], by omega, rfl, by simp; omega, ?_, ?_⟩
  ·
   rw [if_neg hc] at hD; simpa using hD
  simp only [(id F_mems), seval, List.length_append, flat_append, flat_cons, flat_nil, cI]
  try rfl
 obtain rfl : k = l.length := by omega
 have hI : ¬ (l.length : Int) < (l.length : Int) := by omega
 rw [List.drop_length] at hD
 simp only [idsOf, List.append_nil] at hD
 subst hD
 refine awR [] [none] ?_
 simp only [(id F_mems), seval, hI]
 refine awF ?_
 refine awQ ?_
 simp only [(id F_mems), seval]
 refine awR [24] [none, none] ?_
 simp only [(id F_mems), seval]
 refine ⟨_, Sort_I _ _ 21 s _ (idsOf l) (by rfl) (by omega), ?_⟩
 rintro res H nx ⟨rfl, rfl, rfl⟩
 simp only [(id F_mems), seval]
 refine awR [26] [none, none, none] ?_
 simp only [(id F_mems), seval]
 refine ⟨_, Compact_I' 26 _ _ 21 s _ _ (sorted (idsOf l)) (sorted_length _).symm (by rfl) (by rw [sorted_length]; omega), ?_⟩
 rintro res H nx ⟨rfl, rfl, rfl⟩
 simp only [(id F_mems), seval]
 refine awX ?_
 simp only [(id F_mems), seval]
 exact flat_pure cI_pure _
end Go.Proofs.YtokmkopihhnggaaDoor
end
section
/- guarantee.holder, guarantee.checkDebt walked by the abstract machine. -/
namespace Go.Proofs.YtokmkopihhnggaaDoor
open Go Go.RowKit
instance : Inhabited GClaim := ⟨⟨0, 0, ⟨false, bEmpty, bEmpty⟩⟩⟩
def claimAt (es : List GEst) (l : Leg) : GClaim := (es.getD l.1.toNat ztEst).claims.getD l.2.toNat default
def inEsts (es : List GEst) (l : Leg) : Bool := decide (0 ≤ l.1) && decide (l.1 < es.length) && decide (0 ≤ l.2) && decide (l.2 < (es.getD l.1.toNat ztEst).claims.length)
theorem flat_get {α : Type} {f : α → List C} {sz : Nat} (hf : ∀ a, (f a).length = sz) (l : List α) (i : Int) (d : α) (h0 : 0 ≤ i) (h : i < l.length) : (flat f l).drop (i.toNat * sz) = f (l.getD i.toNat d) ++ flat f (l.drop (i.toNat + 1)) := by
  have hk : i.toNat < l.length := by omega
  rw [flat_at hf l i.toNat hk]
  congr 2
  simp [List.getD, hk]
def F_guarantee_holder := And.intro zS (And.intro tf14 (And.intro tf15 (And.intro tf16 (And.intro tf17 (And.intro tf18 (And.intro tf19 (And.intro tf20 (And.intro tf21 (And.intro tf22 (And.intro tf23 (And.intro tf24 (tf12))))))))))))
theorem holder_A (g : GGrp) (l : Leg) (h : inEsts g.ests l = true) :
  ACall Tryd.prog 18 [.agg (cGrp g), .agg (cLeg l)] (one (.int .i64 (claimAt g.ests l).holder)) := by
 simp only [inEsts, Bool.and_eq_true, decide_eq_true_eq] at h
 obtain ⟨⟨⟨h1, h2⟩, h3⟩, h4⟩ := h
 have a1 := flat_get cEst_len g.ests l.1 ztEst h1 h2
 have a2 := flat_get cClaim_len (g.ests.getD l.1.toNat ztEst).claims l.2 default h3 h4
 unfold claimAt
 generalize g.ests.getD l.1.toNat ztEst = e at *
 generalize e.claims.getD l.2.toNat default = c at *
 refine acall_of Tryd.func18 rfl (by decide) (N := 17) rfl (by simp) (R := [.tmp 4]) rfl fun en k0 => ?_
 refine awR [] [none, none, none] ?_
 simp only [(id F_guarantee_holder), seval, cGrp, cLeg]
 refine awD (scq [1, 3, 5, 7, 9, 11, 13, 15, 17, 19, 21, 23, 25] .nil) [none, none, none, none, none, none, none, none, none, none, none, none, none] ?_
 simp only [(id F_guarantee_holder), seval, a1, a2, cEst, cClaim]
 refine ⟨⟨h1, h2⟩, ⟨h3, h4⟩, ?_⟩
 refine awX ?_
 simp only [(id F_guarantee_holder), seval]
noncomputable def cdLoop (es : List GEst) (h0 : Int) : List Leg → List Leg → Int × List Leg
  | [], T => (0, T)
  | l :: ls, T => if inEsts es l = false then (1, T) else if l ∈ T then (20, T) else if (claimAt es l).holder ≠ h0 then (19, T) else cdLoop es h0 ls (T ++ [l])
noncomputable def cdSpec (g : GGrp) (d : GDebt) (T : List Leg) : Int × List Leg :=
  if 8 < d.legs.length then (2, T) else if qSgn (qOf d.whole) < 0 then (7, T) else cdLoop g.ests (claimAt g.ests (d.legs.getD 0 (0, 0))).holder d.legs T
def mapB (s : Nat) (T : List Leg) : Blk := ⟨s, 47, 0, 0, setC T⟩
def F_guarantee_checkDebt := And.intro zS (And.intro tf15 (And.intro tf25 (And.intro tf16 (And.intro tf17 (And.intro tf26 (And.intro tf27 (And.intro tf28 (And.intro tf19 (And.intro tf20 (And.intro tf21 (And.intro tf22 (And.intro tf23 (And.intro tf24 (And.intro tf29 (And.intro tf30 (And.intro tf31 (And.intro tf32 (And.intro tf12 (And.intro tf33 (tf34))))))))))))))))))))
theorem on66 {H : Hp} {f : Hp} (hb : ∀ x B, H x = some B → x < 1000) (hf : ∀ x, x < 1000 → x ≠ 66 → f x = H x) (l : List Nat) : ∀ x B, H x = some B → hasN (66 :: l) x = true ∨ f x = some B := fun x B hB => by
  by_cases hx : x = 66
  · left; subst hx; rfl
  right; rw [hf x (hb x B hB) hx]; exact hB
set_option maxHeartbeats 1000000 in
theorem checkDebt_I (g : GGrp) (d : GDebt) (T : List Leg) (H : Hp) (nx0 s : Nat) (hb : ∀ x B, H x = some B → x < 1000) (hH : H 66 = some (mapB s T)) (h1 : d.whole.num.size ≤ 500000000000) (h2 : d.whole.den.size ≤ 500000000000) :
  ACallI Tryd.prog 9 [.agg (cGrp g), .agg (cDebt d), .one (.own 66 s 0 0)] H nx0
   (fun res H' _ => res = one (.int .i64 (cdSpec g d T).1) ∧ H' 66 = some (mapB s (cdSpec g d T).2) ∧ ∀ x, x < 1000 → x ≠ 66 → H' x = H x) := by
 have hS := aSign d.whole h1 h2
 unfold cdSpec
 refine acallI_of 1000 Tryd.func9 rfl (by decide) (N := 74) rfl (by simp) (Rl := [.tmp 6]) rfl fun en k0 => ?_
 by_cases hlen : 8 < d.legs.length
 ·
  have hI : (8 : Int) < (d.legs.length : Int) := by omega
  refine awR [] [none, none, none] ?_
  simp only [(id F_guarantee_checkDebt), seval, cGrp, cDebt]
  refine awR [] [none, none, none, none, none] ?_
  simp only [(id F_guarantee_checkDebt), seval, hI]
  refine awT ?_
  refine awR [] [none] ?_
  simp only [(id F_guarantee_checkDebt), seval]
  refine awX ?_
  simp only [(id F_guarantee_checkDebt), seval, hlen, hH]
  exact (fun x h1 h2 => by (try simp only [up_apply]); repeat rw [if_neg (by omega)])
 have hI : ¬ (8 : Int) < (d.legs.length : Int) := by omega
 by_cases hq : qSgn (qOf d.whole) < 0
 ·
  repeat' first|apply awS|apply awB
  refine awR [] [none, none, none] ?_
  simp only [(id F_guarantee_checkDebt), seval, cGrp, cDebt]
  refine awR [] [none, none, none, none, none] ?_
  simp only [(id F_guarantee_checkDebt), seval, hI]
  refine awF ?_
  refine awR [] [none, none, none, none, none] ?_
  simp only [(id F_guarantee_checkDebt), seval]
  refine ⟨_, hS, rfl, ?_⟩
  simp only [Later, (id F_guarantee_checkDebt), seval, hq]
  refine awT ?_
  refine awR [] [none] ?_
  simp only [(id F_guarantee_checkDebt), seval]
  refine awX ?_
  simp only [(id F_guarantee_checkDebt), seval, hlen, hH]
  exact (fun x h1 h2 => by (try simp only [up_apply]); repeat rw [if_neg (by omega)])
 repeat' first|apply awS|apply awB
 refine awR [] [none, none, none] ?_
 simp only [(id F_guarantee_checkDebt), seval, cGrp, cDebt]
 refine awR [] [none, none, none, none, none] ?_
 simp only [(id F_guarantee_checkDebt), seval, hI]
 refine awF ?_
 refine awR [] [none, none, none, none, none] ?_
 simp only [(id F_guarantee_checkDebt), seval]
 refine ⟨_, hS, rfl, ?_⟩
 simp only [Later, (id F_guarantee_checkDebt), seval, hq]
 refine awF ?_
 refine awK ?_
 simp only [(id F_guarantee_checkDebt), seval]
 refine awR [] [none, none, none, none] ?_
 simp only [(id F_guarantee_checkDebt), seval]
 simp only [hlen, if_false]
 refine awp_on H [2, 3, 4, 20, 21, 22] [66, 1003, 1004] (on66 hb (fun x h1 h2 => by (try simp only [up_apply]); repeat rw [if_neg (by omega)]) _) ?_
 simp only [Later, (id F_guarantee_checkDebt), seval, hH]
 generalize hh0 : (claimAt g.ests (d.legs.getD 0 (0, 0))).holder = hd0
 repeat' first|apply awS|apply awB
 refine awp_loopw (fun n st => ∃ k nx T1, k ≤ d.legs.length ∧ n = d.legs.length - k ∧ cdLoop g.ests hd0 (d.legs.drop k) T1 = cdLoop g.ests hd0 d.legs T ∧ (0 < k → inEsts g.ests (d.legs.getD 0 (0, 0)) = true) ∧ st = ⟨mkT [(2, .val (.one (.own 66 s 0 0))), (3, .val (.one (.ptr 1003 nx0 0))), (4, .val (.one (.ptr 1004 (nx0 + 1) 0))), (20, .val (.one (.sh 2 d.legs.length (flat cLeg d.legs)))), (21, one (.int .i64 d.legs.length)), (22, one (.int .i64 k))], mkOn H [(66, mapB s T1), (1003, ⟨nx0, 25, 2, 1, cGrp g⟩), (1004, ⟨nx0 + 1, 36, 4, 1, cDebt d⟩)], nx, 1000⟩) d.legs.length ⟨0, _, T, by omega, by omega, rfl, by omega, rfl⟩ ?_
 rintro n st ⟨k, nx, T1, hk, rfl, hL, h0, rfl⟩
 by_cases hlt : k < d.legs.length
 ·
  have hI : (k : Int) < (d.legs.length : Int) := by omega
  have hI0 : (0 : Int) < (d.legs.length : Int) := by omega
  have hat := flat_at cLeg_len d.legs k hlt
  have hdr : d.legs.drop k = d.legs[k] :: d.legs.drop (k + 1) := List.drop_eq_getElem_cons hlt
  have ht0 : List.take 2 (flat cLeg d.legs) = cLeg (d.legs.getD 0 (0, 0)) := by
   have h5 : 0 < d.legs.length := by omega
   have := flat_at cLeg_len d.legs 0 h5
   simp only [Nat.zero_mul, List.drop_zero] at this
   rw [this, List.take_left' (cLeg_len _)]
   simp [List.getD, h5]
  have hlen0 : 2 ≤ (flat cLeg d.legs).length := by rw [flat_length cLeg_len]; omega
  have hk0 : k = 0 → d.legs[k] = d.legs.getD 0 (0, 0) := fun h => by subst h; simp [List.getD, hlt]
  rw [hdr] at hL
  generalize d.legs[k] = l at *
  simp only [cdLoop] at hL
  have RES : ∀ (c : Int), (if inEsts g.ests l = false then ((1 : Int), T1) else if l ∈ T1 then (20, T1) else if (claimAt g.ests l).holder ≠ hd0 then (19, T1) else cdLoop g.ests hd0 (List.drop (k + 1) d.legs) (T1 ++ [l])) = (c, T1) → cdLoop g.ests hd0 d.legs T = (c, T1) := fun c h => hL.symm.trans h
  by_cases hin : inEsts g.ests l = true
  ·
   have hin' := hin
   simp only [inEsts, Bool.and_eq_true, decide_eq_true_eq] at hin'
   obtain ⟨⟨⟨e1, e2⟩, e3⟩, e4⟩ := hin'
   have a1 := flat_get cEst_len g.ests l.1 ztEst e1 e2
   have hH1 := holder_A g l hin
   have hin0 : inEsts g.ests (d.legs.getD 0 (0, 0)) = true := by
    rcases Nat.eq_zero_or_pos k with h | h
    ·
     rw [← hk0 h]; exact hin
    exact h0 h
   have hH2 := holder_A g (d.legs.getD 0 (0, 0)) hin0
   rw [hh0] at hH2
   generalize d.legs.getD 0 (0, 0) = l0 at *
   have n1 : ¬ l.1 < 0 := by omega
   have n2 : ¬ (g.ests.length : Int) ≤ l.1 := by omega
   have n3 : ¬ l.2 < 0 := by omega
   have n4 : ¬ ((g.ests.getD l.1.toNat ztEst).claims.length : Int) ≤ l.2 := by omega
   refine awR [] [none] ?_
   simp only [(id F_guarantee_checkDebt), seval, hI]
   refine awT ?_
   refine awK ?_
   simp only [(id F_guarantee_checkDebt), seval]
   refine awR [] [none, none, none, none] ?_
   simp only [(id F_guarantee_checkDebt), seval, hat, cLeg]
   repeat refine ob ?_
   refine awD (scq [1, 3, 5, 7, 9, 11, 13, 15, 17, 19, 21, 23, 25, 27, 29, 31, 33, 35, 37, 39, 41, 43, 45, 47, 49, 51, 53, 55, 57, 59] .nil) [none, none, none, none, some (30, false), some (30, false), some (30, false), some (30, false), some (30, false), some (30, false), none, none, some (38, false), some (38, false), some (38, false), none, none, some (43, false), some (43, false), some (43, false), some (43, false), some (43, false), some (43, false), some (43, false), some (43, false), some (43, false), some (43, false), some (43, false), none, none] ?_
   simp only [(id F_guarantee_checkDebt), seval, n1, n2, n3, n4, a1, cEst, cGrp]
   repeat refine ob ?_
   refine awF ?_
   by_cases hm : l ∈ T1
   ·
    repeat' first|apply awS|apply awB
    refine awR [] [none, none, none, none] ?_
    simp only [(id F_guarantee_checkDebt), seval, mget_in l T1 hm, mapB, Option.getD_some, Option.isSome_some]
    refine ⟨MK_leg l T1, ?_⟩
    refine awT ?_
    refine awR [] [none] ?_
    simp only [(id F_guarantee_checkDebt), seval]
    have hR := RES 20 (by simp [hin, hm])
    refine awX ?_
    simp only [(id F_guarantee_checkDebt), seval, hR, mapB]
    exact (fun x h1 h2 => by (try simp only [up_apply]); repeat rw [if_neg (by omega)])
   repeat' first|apply awS|apply awB
   refine awR [] [none, none, none, none] ?_
   simp only [(id F_guarantee_checkDebt), seval, mget_out l T1 hm, mapB, Option.getD_none]
   refine ⟨MK_leg l T1, ?_⟩
   refine awF ?_
   by_cases hne : (claimAt g.ests l).holder = hd0
   ·
    repeat' first|apply awS|apply awB
    refine awD (scq [1, 3, 7, 9, 11, 13, 15, 4, 16, 19, 21] .nil) [none, none, none, none, none, none, none, none, none, none, none] ?_
    simp only [(id F_guarantee_checkDebt), seval, cDebt, ht0, cLeg, flat_pure cEst_pure, flat_pure cDebt_pure]
    repeat refine ob ?_
    refine ⟨_, hH1, rfl, ?_⟩
    simp only [Later, (id F_guarantee_checkDebt), seval, cLeg, flat_pure cEst_pure, flat_pure cDebt_pure]
    repeat refine ob ?_
    refine ⟨_, hH2, rfl, ?_⟩
    simp only [Later, (id F_guarantee_checkDebt), seval, hne]
    refine awF ?_
    refine awK ?_
    simp only [(id F_guarantee_checkDebt), seval]
    refine awR [] [none, none, none] ?_
    simp only [(id F_guarantee_checkDebt), seval, mput_new l T1 hm, mapB]
    refine ⟨MK_leg l T1, ?_⟩
    refine awR [] [none, none] ?_
    simp only [(id F_guarantee_checkDebt), seval]
    repeat refine ob ?_
    refine ⟨_, wk_on H [2, 3, 4, 20, 21, 22] [66, 1003, 1004] (on66 hb (fun x h1 h2 => by (try simp only [up_apply]); repeat rw [if_neg (by omega)]) _), d.legs.length - (k + 1), by omega, k + 1, nx + 1, T1 ++ [l], by omega, rfl, ?_, fun _ => hin0, ?_⟩
    ·
     rw [← hL]; simp [hin, hm, hne]
    simp only [(id F_guarantee_checkDebt), seval, mapB]
    try rfl
   repeat' first|apply awS|apply awB
   refine awD (scq [1, 3, 7, 9, 11, 13, 15, 4, 16, 19, 21] .nil) [none, none, none, none, none, none, none, none, none, none, none] ?_
   simp only [(id F_guarantee_checkDebt), seval, cDebt, ht0, cLeg, flat_pure cEst_pure, flat_pure cDebt_pure]
   repeat refine ob ?_
   refine ⟨_, hH1, rfl, ?_⟩
   simp only [Later, (id F_guarantee_checkDebt), seval, cLeg, flat_pure cEst_pure, flat_pure cDebt_pure]
   repeat refine ob ?_
   refine ⟨_, hH2, rfl, ?_⟩
   simp only [Later, (id F_guarantee_checkDebt), seval, hne]
   refine awT ?_
   refine awR [] [none] ?_
   simp only [(id F_guarantee_checkDebt), seval]
   have hR := RES 19 (by simp [hin, hm, hne])
   refine awX ?_
   simp only [(id F_guarantee_checkDebt), seval, hR, mapB]
   exact (fun x h1 h2 => by (try simp only [up_apply]); repeat rw [if_neg (by omega)])
  have hin' : inEsts g.ests l = false := by simpa using hin
  have hR := RES 1 (by simp [hin'])
  by_cases p1 : l.1 < 0
  ·
   refine awR [] [none] ?_
   simp only [(id F_guarantee_checkDebt), seval, hI]
   refine awT ?_
   refine awK ?_
   simp only [(id F_guarantee_checkDebt), seval]
   refine awR [] [none, none, none, none] ?_
   simp only [(id F_guarantee_checkDebt), seval, hat, cLeg]
   repeat refine ob ?_
   refine awD (scq [1, 3, 5, 7, 9, 11, 13, 15, 17, 19, 21, 23, 25, 27, 29, 31, 33, 35, 37, 39, 41, 43, 45, 47, 49, 51, 53, 55, 57, 59] .nil) [none, none, none, none, some (30, false), some (30, false), some (30, false), some (30, false), some (30, false), some (30, false), none, none, some (38, false), some (38, false), some (38, false), none, none, some (43, false), some (43, false), some (43, false), some (43, false), some (43, false), some (43, false), some (43, false), some (43, false), some (43, false), some (43, false), some (43, false), none, none] ?_
   simp only [(id F_guarantee_checkDebt), seval, p1, cGrp]
   repeat refine ob ?_
   refine awT ?_
   refine awR [] [none] ?_
   simp only [(id F_guarantee_checkDebt), seval]
   refine awX ?_
   simp only [(id F_guarantee_checkDebt), seval, hR, mapB]
   exact (fun x h1 h2 => by (try simp only [up_apply]); repeat rw [if_neg (by omega)])
  by_cases p2 : (g.ests.length : Int) ≤ l.1
  ·
   refine awR [] [none] ?_
   simp only [(id F_guarantee_checkDebt), seval, hI]
   refine awT ?_
   refine awK ?_
   simp only [(id F_guarantee_checkDebt), seval]
   refine awR [] [none, none, none, none] ?_
   simp only [(id F_guarantee_checkDebt), seval, hat, cLeg]
   repeat refine ob ?_
   refine awD (scq [1, 3, 5, 7, 9, 11, 13, 15, 17, 19, 21, 23, 25, 27, 29, 31, 33, 35, 37, 39, 41, 43, 45, 47, 49, 51, 53, 55, 57, 59] .nil) [none, none, none, none, some (30, false), some (30, false), some (30, false), some (30, false), some (30, false), some (30, false), none, none, some (38, false), some (38, false), some (38, false), none, none, some (43, false), some (43, false), some (43, false), some (43, false), some (43, false), some (43, false), some (43, false), some (43, false), some (43, false), some (43, false), some (43, false), none, none] ?_
   simp only [(id F_guarantee_checkDebt), seval, p1, p2, cGrp]
   repeat refine ob ?_
   refine awT ?_
   refine awR [] [none] ?_
   simp only [(id F_guarantee_checkDebt), seval]
   refine awX ?_
   simp only [(id F_guarantee_checkDebt), seval, hR, mapB]
   exact (fun x h1 h2 => by (try simp only [up_apply]); repeat rw [if_neg (by omega)])
  by_cases p3 : l.2 < 0
  ·
   refine awR [] [none] ?_
   simp only [(id F_guarantee_checkDebt), seval, hI]
   refine awT ?_
   refine awK ?_
   simp only [(id F_guarantee_checkDebt), seval]
   refine awR [] [none, none, none, none] ?_
   simp only [(id F_guarantee_checkDebt), seval, hat, cLeg]
   repeat refine ob ?_
   refine awD (scq [1, 3, 5, 7, 9, 11, 13, 15, 17, 19, 21, 23, 25, 27, 29, 31, 33, 35, 37, 39, 41, 43, 45, 47, 49, 51, 53, 55, 57, 59] .nil) [none, none, none, none, some (30, false), some (30, false), some (30, false), some (30, false), some (30, false), some (30, false), none, none, some (38, false), some (38, false), some (38, false), none, none, some (43, false), some (43, false), some (43, false), some (43, false), some (43, false), some (43, false), some (43, false), some (43, false), some (43, false), some (43, false), some (43, false), none, none] ?_
   simp only [(id F_guarantee_checkDebt), seval, p1, p2, p3, cGrp]
   repeat refine ob ?_
   refine awT ?_
   refine awR [] [none] ?_
   simp only [(id F_guarantee_checkDebt), seval]
   refine awX ?_
   simp only [(id F_guarantee_checkDebt), seval, hR, mapB]
   exact (fun x h1 h2 => by (try simp only [up_apply]); repeat rw [if_neg (by omega)])
  have a1 := flat_get cEst_len g.ests l.1 ztEst (by omega) (by omega)
  have p4 : ((g.ests.getD l.1.toNat ztEst).claims.length : Int) ≤ l.2 := by
   simp only [inEsts] at hin'
   by_cases q : ((g.ests.getD l.1.toNat ztEst).claims.length : Int) ≤ l.2
   ·
    exact q
   have e1 : 0 ≤ l.1 := by omega
   have e2 : l.1 < (g.ests.length : Int) := by omega
   have e3 : 0 ≤ l.2 := by omega
   have e4 : l.2 < ((g.ests.getD l.1.toNat ztEst).claims.length : Int) := by omega
   rw [decide_eq_true e1, decide_eq_true e2, decide_eq_true e3, decide_eq_true e4] at hin'
   cases hin'
  refine awR [] [none] ?_
  simp only [(id F_guarantee_checkDebt), seval, hI]
  refine awT ?_
  refine awK ?_
  simp only [(id F_guarantee_checkDebt), seval]
  refine awR [] [none, none, none, none] ?_
  simp only [(id F_guarantee_checkDebt), seval, hat, cLeg]
  repeat refine ob ?_
  refine awD (scq [1, 3, 5, 7, 9, 11, 13, 15, 17, 19, 21, 23, 25, 27, 29, 31, 33, 35, 37, 39, 41, 43, 45, 47, 49, 51, 53, 55, 57, 59] .nil) [none, none, none, none, some (30, false), some (30, false), some (30, false), some (30, false), some (30, false), some (30, false), none, none, some (38, false), some (38, false), some (38, false), none, none, some (43, false), some (43, false), some (43, false), some (43, false), some (43, false), some (43, false), some (43, false), some (43, false), some (43, false), some (43, false), some (43, false), none, none] ?_
  simp only [(id F_guarantee_checkDebt), seval, p1, p2, p3, p4, a1, cEst, cGrp]
  repeat refine ob ?_
  refine awT ?_
  refine awR [] [none] ?_
  simp only [(id F_guarantee_checkDebt), seval]
  refine awX ?_
  simp only [(id F_guarantee_checkDebt), seval, hR, mapB]
  exact (fun x h1 h2 => by (try simp only [up_apply]); repeat rw [if_neg (by omega)])
 obtain rfl : k = d.legs.length := by omega
 have hI : ¬ (d.legs.length : Int) < (d.legs.length : Int) := by omega
 rw [List.drop_length] at hL
 simp only [cdLoop] at hL
 refine awR [] [none] ?_
 simp only [(id F_guarantee_checkDebt), seval, hI]
 refine awF ?_
 refine awQ ?_
 simp only [(id F_guarantee_checkDebt), seval]
 refine awR [] [none] ?_
 simp only [(id F_guarantee_checkDebt), seval]
 refine awX ?_
 simp only [(id F_guarantee_checkDebt), seval, ← hL, mapB]
 exact (fun x h1 h2 => by (try simp only [up_apply]); repeat rw [if_neg (by omega)])
end Go.Proofs.YtokmkopihhnggaaDoor
end
