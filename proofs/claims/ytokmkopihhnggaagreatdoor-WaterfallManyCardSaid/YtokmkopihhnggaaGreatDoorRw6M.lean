/- The reference: CheckGroup, FindLeg; walked by the abstract machine. -/
import Derived.Test.YtokmkopihhnggaaGreatDoorGc2M
set_option linter.unusedVariables false
set_option linter.unusedSimpArgs false
set_option linter.defProp false
set_option linter.unnecessarySimpa false
section
/- The reference: CheckGroup, FindLeg; walked by the abstract machine. -/
namespace Go.Proofs.YtokmkopihhnggaaGreatDoor
open Go Go.RowKit
end Go.Proofs.YtokmkopihhnggaaGreatDoor
end
section
/- guarantee.Find; walked by the abstract machine. -/
namespace Go.Proofs.YtokmkopihhnggaaGreatDoor
open Go Go.RowKit
end Go.Proofs.YtokmkopihhnggaaGreatDoor
end
section
/- Plain law: the program's check of an estate is the reference's. No walk. -/
namespace Go.Proofs.YtokmkopihhnggaaGreatDoor
open Go Go.RowKit
theorem compactUpTo_mem {d : Array Int} {x : Int} : ∀ m, m ≤ d.size → (∃ j, j < m ∧ d[j]! = x) → x ∈ Lib.compactUpTo d m
  | 0, _, ⟨j, h, _⟩ => by omega
  | m + 1, hm, ⟨j, hj, hx⟩ => by
    rw [Lib.compactUpTo_succ, List.mem_append]
    by_cases hjm : j < m
    · exact .inl (compactUpTo_mem m (by omega) ⟨j, hjm, hx⟩)
    obtain rfl : j = m := by omega
    cases hk : Lib.keeps d j with
    | true => right; simp [hx]
    | false =>
      left
      have h2 : ¬ (j = 0 ∨ d[j]! ≠ d[j - 1]!) := by simpa [Lib.keeps] using hk
      have h3 : j ≠ 0 := fun h => h2 (.inl h)
      have h4 : d[j]! = d[j - 1]! := Classical.byContradiction fun h => h2 (.inr h)
      exact compactUpTo_mem j (by omega) ⟨j - 1, by omega, by rw [← h4]; exact hx⟩
theorem mem_iff {a : GAgr} {i : Int} : i ∈ mem a ↔ i ∈ idsOf a.flatten := by
  refine ⟨mem_mem, fun h => ?_⟩
  have h1 : i ∈ sorted (idsOf a.flatten) := by simpa [sorted] using h
  obtain ⟨j, hj, hx⟩ := List.getElem_of_mem h1
  exact compactUpTo_mem _ (by simp) ⟨j, hj, by rw [getElem!_pos _ j (by simpa using hj)]; simpa using hx⟩
theorem mbT_ids (c : Int) (hc : c ≠ -1) : ∀ l : List GPart, mbT c l = decide (c ∈ idsOf l)
  | [] => by simp [mbT, idsOf]
  | p :: l => by
    simp only [mbT, idsOf, mbT_ids c hc l]
    by_cases h : p.claim = -1
    · have : p.claim ≠ c := fun e => hc (by rw [← e, h])
      simp [h, Ne.symm hc]
    by_cases h2 : p.claim = c
    · simp [h, h2, hc]
    simp [h, h2, Ne.symm h2]
theorem mbT_append (c : Int) : ∀ l m : List GPart, mbT c (l ++ m) = (mbT c l || mbT c m)
  | [], m => by simp [mbT]
  | p :: l, m => by simp [mbT, mbT_append c l m, Bool.or_assoc]
theorem mbA_flat (c : Int) : ∀ a : GAgr, mbA c a = mbT c a.flatten
  | [] => rfl
  | t :: a => by rw [List.flatten_cons, mbT_append, mbA, mbA_flat c a]
end Go.Proofs.YtokmkopihhnggaaGreatDoor
end
section
/- Plain law: the program's check of a group is the reference's. No walk. -/
namespace Go.Proofs.YtokmkopihhnggaaGreatDoor
open Go Go.RowKit
end Go.Proofs.YtokmkopihhnggaaGreatDoor
end
