/- Few: what is short enough for a law; walked by the abstract machine. -/
import Derived.Test.YtogeijhepjcbgaaGreatDoorLawM
import Derived.Test.YtogeijhepjcbgaaGreatDoorRw6M
import Derived.Test.YtogeijhepjcbgaaGreatDoorPl2M
set_option linter.unusedVariables false
set_option linter.unusedSimpArgs false
set_option linter.defProp false
set_option linter.unnecessarySimpa false
/- Few: what is short enough for a law; walked by the abstract machine. -/
namespace Go.Proofs.YtogeijhepjcbgaaGreatDoor
open Go Go.RowKit
def fewR (r : GRat) : Bool := decide ((r.num.size : Int) ≤ 24) && decide ((r.den.size : Int) ≤ 24)
theorem lFew_fo44_1 : foT Tryz.prog 44 1 = some (1, 9) := by kernel_rfl
theorem lFew_fo44_2 : foT Tryz.prog 44 2 = some (2, 9) := by kernel_rfl
theorem lFew_ld9 : ldT Tryz.prog 9 = some (false, 1) := by kernel_rfl
theorem lFew_ud9 : (Tryz.prog).underlying 9 = some .string := by kernel_rfl
def F_lFew := And.intro lFew_fo44_1 (And.intro lFew_fo44_2 (And.intro lFew_ld9 (lFew_ud9)))
set_option maxHeartbeats 4000000 in
theorem fewR_A (r : GRat) : ACall Tryz.prog 20 [.agg (cRat r)] (one (.bool (fewR r))) := by
  refine acall_of Tryz.func20 rfl (by decide) (N := 13) rfl (by simp) (R := [.tmp 2]) rfl fun en k0 => ?_
  repeat' first|refine awS ?_|refine awB ?_
  refine awR [] [none, none] ?_
  simp only [(id F_lFew), (id SS), seval, reduceIte, ne_eq, cRat]
  repeat (refine ⟨by first | omega | (simp only [List.length_cons]; omega), ?_⟩)
  by_cases h1 : (r.num.size : Int) ≤ 24
  · skip
    by_cases h2 : (r.den.size : Int) ≤ 24
    · skip
      repeat' first|refine awS ?_|refine awB ?_
      refine awR [] [none, none, none, none, none, some (7, true), some (7, true), some (7, true), some (7, true), none, none] ?_
      simp only [(id F_lFew), (id SS), seval, reduceIte, ne_eq, cRat, h1, h2]
      repeat (refine ⟨by first | omega | (simp only [List.length_cons]; omega), ?_⟩)
      repeat' first|refine awS ?_|refine awB ?_
      refine awp_ret ?_
      (first | (simp only [(id F_lFew), (id SS), seval, reduceIte, ne_eq, cRat, fewR, h1, h2]; done) | (simp only [(id F_lFew), (id SS), seval, reduceIte, ne_eq, cRat]; first | (simp [fewR, h1, h2]; done)))
    · skip
      repeat' first|refine awS ?_|refine awB ?_
      refine awR [] [none, none, none, none, none, some (7, true), some (7, true), some (7, true), some (7, true), none, none] ?_
      simp only [(id F_lFew), (id SS), seval, reduceIte, ne_eq, cRat, h1, h2]
      repeat (refine ⟨by first | omega | (simp only [List.length_cons]; omega), ?_⟩)
      repeat' first|refine awS ?_|refine awB ?_
      refine awp_ret ?_
      (first | (simp only [(id F_lFew), (id SS), seval, reduceIte, ne_eq, cRat, fewR, h1, h2]; done) | (simp only [(id F_lFew), (id SS), seval, reduceIte, ne_eq, cRat]; first | (simp [fewR, h1, h2]; done)))
  · skip
    repeat' first|refine awS ?_|refine awB ?_
    refine awR [] [none, none, none, none, none, some (7, true), some (7, true), some (7, true), some (7, true), none, none] ?_
    simp only [(id F_lFew), (id SS), seval, reduceIte, ne_eq, cRat, h1]
    repeat (refine ⟨by first | omega | (simp only [List.length_cons]; omega), ?_⟩)
    repeat' first|refine awS ?_|refine awB ?_
    refine awp_ret ?_
    (first | (simp only [(id F_lFew), (id SS), seval, reduceIte, ne_eq, cRat, fewR, h1]; done) | (simp only [(id F_lFew), (id SS), seval, reduceIte, ne_eq, cRat]; first | (simp [fewR, h1]; done)))
theorem fewR_ok {r : GRat} (h : fewR r = true) : ratOK r := by
  simp only [fewR, Bool.and_eq_true, decide_eq_true_eq] at h
  unfold ratOK; omega
theorem grpOK2_ok {g : GGrp} (h : grpOK2 g) : grpOK g := ⟨fun e he => (h.1 e he).1, h.2.1⟩
end Go.Proofs.YtogeijhepjcbgaaGreatDoor
