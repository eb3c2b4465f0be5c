/- Few: what is short enough for a law; walked by the abstract machine. -/
import Derived.Test.YtogeijhepjcbgaaGreatDoorAb12M
import Derived.Test.YtogeijhepjcbgaaGreatDoorRw6M
import Derived.Test.YtogeijhepjcbgaaGreatDoorPl2M
set_option linter.unusedVariables false
set_option linter.unusedSimpArgs false
set_option linter.defProp false
set_option linter.unnecessarySimpa false
/- Few: what is short enough for a law; walked by the abstract machine. -/
namespace Go.Proofs.YtogeijhepjcbgaaGreatDoor
open Go Go.RowKit

def fewR (r : GRat) : Bool := decide ((r.num.size : Int) ≤ 24) && decide ((r.den.size : Int) ≤ 24)
def fewCl : List GClaim → Bool
  | [] => true
  | c :: l => if fewR c.amount = true then fewCl l else false
def fewPt : List GPart → Bool
  | [] => true
  | c :: l => if fewR c.cap = true then fewPt l else false
def fewTr : List (List GPart) → Bool
  | [] => true
  | t :: l => if (30 : Int) < (t.length : Int) then false else if fewPt t = true then fewTr l else false
def fewAg : List GAgr → Bool
  | [] => true
  | a :: l => if (30 : Int) < (a.length : Int) then false else if fewTr a = true then fewAg l else false
def fewE (e : GEst) : Bool := if (8 : Int) < (e.claims.length : Int) then false else if (4 : Int) < (e.agrs.length : Int) then false else if fewR e.cash = true then (if fewCl e.claims = true then fewAg e.agrs else false) else false
def fewEs : List GEst → Bool
  | [] => true
  | e :: l => if fewE e = true then fewEs l else false
def fewDs : List GDebt → Bool
  | [] => true
  | d :: l => if (12 : Int) < (d.legs.length : Int) then false else if fewR d.whole = true then fewDs l else false
def fewG (g : GGrp) : Bool := if (4 : Int) < (g.ests.length : Int) then false else if (5 : Int) < (g.debts.length : Int) then false else if fewEs g.ests = true then fewDs g.debts else false

theorem lFew_fo44_1 : foT Tryz.prog 44 1 = some (1, 9) := by kernel_rfl
theorem lFew_fo44_2 : foT Tryz.prog 44 2 = some (2, 9) := by kernel_rfl
theorem lFew_ld9 : ldT Tryz.prog 9 = some (false, 1) := by kernel_rfl
theorem lFew_ud9 : (Tryz.prog).underlying 9 = some .string := by kernel_rfl
def F_lFew := And.intro lFew_fo44_1 (And.intro lFew_fo44_2 (And.intro lFew_ld9 (lFew_ud9)))

set_option maxHeartbeats 4000000 in
theorem fewR_A (r : GRat) : ACall Tryz.prog 20 [.agg (cRat r)] (one (.bool (fewR r))) := by
  refine acall_of Tryz.func20 rfl (by decide) (N := 13) rfl (by simp) (R := [.tmp 2]) rfl fun en k0 => ?_
  repeat' (first | refine awp_seq ?_ | refine awp_block ?_)
  refine awp_region [] (gs := [none, none]) (by rfl) (by kernel_rfl) (by decide) ?_
  simp only [(id F_lFew), (id SS), seval, reduceIte, ne_eq, cRat]
  repeat (refine ⟨by first | omega | (simp only [List.length_cons]; omega), ?_⟩)
  by_cases h1 : (r.num.size : Int) ≤ 24
  · skip
    by_cases h2 : (r.den.size : Int) ≤ 24
    · skip
      repeat' (first | refine awp_seq ?_ | refine awp_block ?_)
      refine awp_region [] (gs := [none, none, none, none, none, some (7, true), some (7, true), some (7, true), some (7, true), none, none]) (by rfl) (by kernel_rfl) (by decide) ?_
      simp only [(id F_lFew), (id SS), seval, reduceIte, ne_eq, cRat, h1, h2]
      repeat (refine ⟨by first | omega | (simp only [List.length_cons]; omega), ?_⟩)
      repeat' (first | refine awp_seq ?_ | refine awp_block ?_)
      refine awp_ret ?_
      (first | (simp only [(id F_lFew), (id SS), seval, reduceIte, ne_eq, cRat, fewR, h1, h2]; done) | (simp only [(id F_lFew), (id SS), seval, reduceIte, ne_eq, cRat]; first | (simp [fewR, h1, h2]; done) | (simp [fewR, h1, h2]; done)))
    · skip
      repeat' (first | refine awp_seq ?_ | refine awp_block ?_)
      refine awp_region [] (gs := [none, none, none, none, none, some (7, true), some (7, true), some (7, true), some (7, true), none, none]) (by rfl) (by kernel_rfl) (by decide) ?_
      simp only [(id F_lFew), (id SS), seval, reduceIte, ne_eq, cRat, h1, h2]
      repeat (refine ⟨by first | omega | (simp only [List.length_cons]; omega), ?_⟩)
      repeat' (first | refine awp_seq ?_ | refine awp_block ?_)
      refine awp_ret ?_
      (first | (simp only [(id F_lFew), (id SS), seval, reduceIte, ne_eq, cRat, fewR, h1, h2]; done) | (simp only [(id F_lFew), (id SS), seval, reduceIte, ne_eq, cRat]; first | (simp [fewR, h1, h2]; done) | (simp [fewR, h1, h2]; done)))
  · skip
    repeat' (first | refine awp_seq ?_ | refine awp_block ?_)
    refine awp_region [] (gs := [none, none, none, none, none, some (7, true), some (7, true), some (7, true), some (7, true), none, none]) (by rfl) (by kernel_rfl) (by decide) ?_
    simp only [(id F_lFew), (id SS), seval, reduceIte, ne_eq, cRat, h1]
    repeat (refine ⟨by first | omega | (simp only [List.length_cons]; omega), ?_⟩)
    repeat' (first | refine awp_seq ?_ | refine awp_block ?_)
    refine awp_ret ?_
    (first | (simp only [(id F_lFew), (id SS), seval, reduceIte, ne_eq, cRat, fewR, h1]; done) | (simp only [(id F_lFew), (id SS), seval, reduceIte, ne_eq, cRat]; first | (simp [fewR, h1]; done) | (simp [fewR, h1]; done)))

theorem wFew_ar83 : arT Tryz.prog 83 = none := by kernel_rfl
theorem wFew_ar65 : arT Tryz.prog 65 = none := by kernel_rfl
theorem wFew_ar64 : arT Tryz.prog 64 = none := by kernel_rfl
theorem wFew_ar82 : arT Tryz.prog 82 = none := by kernel_rfl
theorem wFew_el83 : elT Tryz.prog 83 = some (82, 1, 24) := by kernel_rfl
theorem wFew_el65 : elT Tryz.prog 65 = some (85, 1, 24) := by kernel_rfl
theorem wFew_el64 : elT Tryz.prog 64 = some (69, 5, 56) := by kernel_rfl
theorem wFew_el82 : elT Tryz.prog 82 = some (81, 5, 56) := by kernel_rfl
theorem wFew_fo85_0 : foT Tryz.prog 85 0 = some (0, 83) := by kernel_rfl
theorem wFew_fo69_2 : foT Tryz.prog 69 2 = some (2, 44) := by kernel_rfl
theorem wFew_fo67_0 : foT Tryz.prog 67 0 = some (0, 44) := by kernel_rfl
theorem wFew_fo67_1 : foT Tryz.prog 67 1 = some (3, 64) := by kernel_rfl
theorem wFew_fo67_2 : foT Tryz.prog 67 2 = some (4, 65) := by kernel_rfl
theorem wFew_fo81_2 : foT Tryz.prog 81 2 = some (2, 44) := by kernel_rfl
theorem wFew_ld83 : ldT Tryz.prog 83 = some (false, 1) := by kernel_rfl
theorem wFew_ld65 : ldT Tryz.prog 65 = some (false, 1) := by kernel_rfl
theorem wFew_ld64 : ldT Tryz.prog 64 = some (false, 1) := by kernel_rfl
theorem wFew_ld82 : ldT Tryz.prog 82 = some (false, 1) := by kernel_rfl
theorem wFew_ld85 : ldT Tryz.prog 85 = some (true, 1) := by kernel_rfl
theorem wFew_ld69 : ldT Tryz.prog 69 = some (true, 5) := by kernel_rfl
theorem wFew_ld81 : ldT Tryz.prog 81 = some (true, 5) := by kernel_rfl
theorem wFew_ld44 : ldT Tryz.prog 44 = some (true, 3) := by kernel_rfl
theorem wFew_zr85 : zrT Tryz.prog 85 = some [.slice none 0 0] := by kernel_rfl
theorem wFew_zr69 : zrT Tryz.prog 69 = some [.int .i64 0, .int .i64 0, .bool false, .string bEmpty, .string bEmpty] := by kernel_rfl
theorem wFew_zr81 : zrT Tryz.prog 81 = some [.int .i64 0, .bool false, .bool false, .string bEmpty, .string bEmpty] := by kernel_rfl
def F_wFew := And.intro wFew_ar83 (And.intro wFew_ar65 (And.intro wFew_ar64 (And.intro wFew_ar82 (And.intro wFew_el83 (And.intro wFew_el65 (And.intro wFew_el64 (And.intro wFew_el82 (And.intro wFew_fo85_0 (And.intro wFew_fo69_2 (And.intro wFew_fo67_0 (And.intro wFew_fo67_1 (And.intro wFew_fo67_2 (And.intro wFew_fo81_2 (And.intro wFew_ld83 (And.intro wFew_ld65 (And.intro wFew_ld64 (And.intro wFew_ld82 (And.intro wFew_ld85 (And.intro wFew_ld69 (And.intro wFew_ld81 (And.intro wFew_ld44 (And.intro wFew_zr85 (And.intro wFew_zr69 (wFew_zr81))))))))))))))))))))))))

set_option maxHeartbeats 4000000 in
theorem fewE_A (e : GEst) (he : okEst e) : ACall Tryz.prog 66 [.agg (cEst e)] (one (.bool (fewE e))) := by
  have hn0 := he.2.1.1
  have hn1 := he.2.2.1
  unfold maxLen at hn0 hn1
  refine acall_of Tryz.func66 rfl (by decide) (N := 73) rfl (by simp) (R := [.tmp 2]) rfl fun en k0 => ?_
  repeat' (first | refine awp_seq ?_ | refine awp_block ?_)
  refine awp_region [] (gs := [none, none]) (by rfl) (by kernel_rfl) (by decide) ?_
  simp only [(id F_wFew), (id SS), seval, reduceIte, ne_eq, cEst]
  repeat (refine ⟨by first | omega | (simp only [List.length_cons]; omega), ?_⟩)
  by_cases h1 : (8 : Int) < (e.claims.length : Int)
  · skip
    repeat' (first | refine awp_seq ?_ | refine awp_block ?_)
    refine awp_region [] (gs := [none, none, none, none, none, some (15, false), some (15, false), some (15, false), some (15, false), none, none, some (21, false), some (21, false), some (21, false), some (21, false), none]) (by rfl) (by kernel_rfl) (by decide) ?_
    simp only [(id F_wFew), (id SS), seval, reduceIte, ne_eq, cEst, h1]
    repeat (refine ⟨by first | omega | (simp only [List.length_cons]; omega), ?_⟩)
    repeat' (first | refine awp_seq ?_ | refine awp_block ?_)
    refine awp_cond true (by rfl) (fun _ => ?_) (fun h => by cases h)
    repeat' (first | refine awp_seq ?_ | refine awp_block ?_)
    refine awp_region [] (gs := [none]) (by rfl) (by kernel_rfl) (by decide) ?_
    simp only [(id F_wFew), (id SS), seval, reduceIte, ne_eq, cEst, h1]
    repeat (refine ⟨by first | omega | (simp only [List.length_cons]; omega), ?_⟩)
    repeat' (first | refine awp_seq ?_ | refine awp_block ?_)
    refine awp_ret ?_
    (first | (simp only [(id F_wFew), (id SS), seval, reduceIte, ne_eq, cEst, fewE, h1]; done) | (simp only [(id F_wFew), (id SS), seval, reduceIte, ne_eq, cEst]; first | (simp [fewE, h1]; done) | (simp [fewE, h1]; done)))
  · skip
    by_cases h2 : (4 : Int) < (e.agrs.length : Int)
    · skip
      repeat' (first | refine awp_seq ?_ | refine awp_block ?_)
      refine awp_region [] (gs := [none, none, none, none, none, some (15, false), some (15, false), some (15, false), some (15, false), none, none, some (21, false), some (21, false), some (21, false), some (21, false), none]) (by rfl) (by kernel_rfl) (by decide) ?_
      simp only [(id F_wFew), (id SS), seval, reduceIte, ne_eq, cEst, h1, h2]
      repeat (refine ⟨by first | omega | (simp only [List.length_cons]; omega), ?_⟩)
      repeat' (first | refine awp_seq ?_ | refine awp_block ?_)
      refine awp_cond true (by rfl) (fun _ => ?_) (fun h => by cases h)
      repeat' (first | refine awp_seq ?_ | refine awp_block ?_)
      refine awp_region [] (gs := [none]) (by rfl) (by kernel_rfl) (by decide) ?_
      simp only [(id F_wFew), (id SS), seval, reduceIte, ne_eq, cEst, h1, h2]
      repeat (refine ⟨by first | omega | (simp only [List.length_cons]; omega), ?_⟩)
      repeat' (first | refine awp_seq ?_ | refine awp_block ?_)
      refine awp_ret ?_
      (first | (simp only [(id F_wFew), (id SS), seval, reduceIte, ne_eq, cEst, fewE, h1, h2]; done) | (simp only [(id F_wFew), (id SS), seval, reduceIte, ne_eq, cEst]; first | (simp [fewE, h1, h2]; done) | (simp [fewE, h1, h2]; done)))
    · skip
      by_cases h3 : fewR e.cash = true
      · skip
        repeat' (first | refine awp_seq ?_ | refine awp_block ?_)
        refine awp_region [] (gs := [none, none, none, none, none, some (15, false), some (15, false), some (15, false), some (15, false), none, none, some (21, false), some (21, false), some (21, false), some (21, false), none]) (by rfl) (by kernel_rfl) (by decide) ?_
        simp only [(id F_wFew), (id SS), seval, reduceIte, ne_eq, cEst, h1, h2, h3]
        repeat (refine ⟨by first | omega | (simp only [List.length_cons]; omega), ?_⟩)
        refine ⟨_, fewR_A e.cash, rfl, ?_⟩
        simp only [Later, (id F_wFew), (id SS), seval, reduceIte, ne_eq, cEst, h1, h2, h3]
        repeat (refine ⟨by first | omega | (simp only [List.length_cons]; omega), ?_⟩)
        repeat' (first | refine awp_seq ?_ | refine awp_block ?_)
        refine awp_cond false (by rfl) (fun h => by cases h) (fun _ => ?_)
        refine awp_skip ?_
        simp only [(id F_wFew), (id SS), seval, reduceIte, ne_eq]
        refine awp_cut (M := fun st => ∃ nx, fewCl e.claims = true ∧ st = ⟨mkT [(1, .val (.one (.ptr 1 0 0)))], mkH [(1, ⟨0, 67, 5, 1, cEst e⟩)], nx, 0⟩) ?_ ?_
        · skip
          repeat' (first | refine awp_seq ?_ | refine awp_block ?_)
          refine awp_region [] (gs := [none, none, none, none]) (by rfl) (by kernel_rfl) (by decide) ?_
          simp only [(id F_wFew), (id SS), seval, reduceIte, ne_eq, cEst, h1, h2, h3]
          repeat (refine ⟨by first | omega | (simp only [List.length_cons]; omega), ?_⟩)
          refine awp_keep [1, 28, 29, 30] [1] ?_
          simp only [Later, (id F_wFew), (id SS), seval, reduceIte, ne_eq, cEst, h1, h2, h3]
          repeat' (first | refine awp_seq ?_ | refine awp_block ?_)
          refine awp_loopw (fun n st => ∃ k0 nx, k0 ≤ e.claims.length ∧ n = e.claims.length - k0 ∧ fewCl (e.claims.drop k0) = fewCl e.claims ∧ st = ⟨mkT [(1, .val (.one (.ptr 1 0 0))), (28, .val (.one (.sh 5 e.claims.length (flat cClaim e.claims)))), (29, one (.int .i64 e.claims.length)), (30, one (.int .i64 k0))], mkH [(1, ⟨0, 67, 5, 1, cEst e⟩)], nx, 0⟩) (e.claims.length) ⟨0, _, by omega, by omega, by rfl, rfl⟩ ?_
          rintro n0 st ⟨k0, nx0, hk0, rfl, hL0, rfl⟩
          by_cases hlt0 : k0 < e.claims.length
          · skip
            have hI0 : (k0 : Int) < (e.claims.length : Int) := by omega
            have hat0 := flat_at cClaim_len e.claims k0 hlt0
            try rw [Nat.mul_one] at hat0
            rw [List.drop_eq_getElem_cons hlt0] at hL0
            generalize e.claims[k0] = c at *
            simp only [fewCl] at hL0
            repeat' (first | refine awp_seq ?_ | refine awp_block ?_)
            refine awp_region [] (gs := [none]) (by rfl) (by kernel_rfl) (by decide) ?_
            simp only [(id F_wFew), (id SS), seval, reduceIte, ne_eq, cEst, h1, h2, h3, hI0, hat0]
            repeat (refine ⟨by first | omega | (simp only [List.length_cons]; omega), ?_⟩)
            repeat' (first | refine awp_seq ?_ | refine awp_block ?_)
            refine awp_cond true (by rfl) (fun _ => ?_) (fun h => by cases h)
            refine awp_skip ?_
            simp only [(id F_wFew), (id SS), seval, reduceIte, ne_eq]
            repeat' (first | refine awp_seq ?_ | refine awp_block ?_)
            refine awp_region [] (gs := [none, none, none, none]) (by rfl) (by kernel_rfl) (by decide) ?_
            simp only [(id F_wFew), (id SS), seval, reduceIte, ne_eq, cEst, h1, h2, h3, hI0, hat0, cClaim]
            repeat (refine ⟨by first | omega | (simp only [List.length_cons]; omega), ?_⟩)
            by_cases h4 : fewR c.amount = true
            · skip
              repeat' (first | refine awp_seq ?_ | refine awp_block ?_)
              refine awp_region [] (gs := [none, none, none, none]) (by rfl) (by kernel_rfl) (by decide) ?_
              simp only [(id F_wFew), (id SS), seval, reduceIte, ne_eq, cEst, h1, h2, h3, hI0, hat0, h4, cClaim]
              repeat (refine ⟨by first | omega | (simp only [List.length_cons]; omega), ?_⟩)
              refine ⟨_, fewR_A c.amount, rfl, ?_⟩
              simp only [Later, (id F_wFew), (id SS), seval, reduceIte, ne_eq, cEst, h1, h2, h3, hI0, hat0, h4, cClaim]
              repeat (refine ⟨by first | omega | (simp only [List.length_cons]; omega), ?_⟩)
              repeat' (first | refine awp_seq ?_ | refine awp_block ?_)
              refine awp_cond false (by rfl) (fun h => by cases h) (fun _ => ?_)
              refine awp_skip ?_
              simp only [(id F_wFew), (id SS), seval, reduceIte, ne_eq]
              repeat' (first | refine awp_seq ?_ | refine awp_block ?_)
              refine awp_region [] (gs := [none, none]) (by rfl) (by kernel_rfl) (by decide) ?_
              simp only [(id F_wFew), (id SS), seval, reduceIte, ne_eq, cEst, h1, h2, h3, hI0, hat0, h4]
              repeat (refine ⟨by first | omega | (simp only [List.length_cons]; omega), ?_⟩)
              repeat (refine ⟨by first | omega | (simp only [List.length_cons]; omega), ?_⟩)
              refine ⟨_, wk_keep [1, 28, 29, 30] [1], e.claims.length - (k0 + 1), by omega, k0 + 1, ?a13_nx, by omega, rfl, ?i13_0, ?st13⟩
              case st13 => (simp only [(id F_wFew), (id SS), seval, reduceIte, ne_eq, cEst]; first | rfl | (simp [Nat.add_mul]; done))
              case i13_0 => (first | exact hL0 | (rw [← hL0]; simp only [reduceIte, h1, h2, h3, hI0, hat0, h4]; done) | (rw [← hL0]; simp [h1, h2, h3, hI0, hat0, h4]; done) | (simp [h1, h2, h3, hI0, hat0, h4] at hL0; simpa using hL0) | (rw [← hL0]; simp [*]; done))
            · skip
              repeat' (first | refine awp_seq ?_ | refine awp_block ?_)
              refine awp_region [] (gs := [none, none, none, none]) (by rfl) (by kernel_rfl) (by decide) ?_
              simp only [(id F_wFew), (id SS), seval, reduceIte, ne_eq, cEst, h1, h2, h3, hI0, hat0, h4, cClaim]
              repeat (refine ⟨by first | omega | (simp only [List.length_cons]; omega), ?_⟩)
              refine ⟨_, fewR_A c.amount, rfl, ?_⟩
              simp only [Later, (id F_wFew), (id SS), seval, reduceIte, ne_eq, cEst, h1, h2, h3, hI0, hat0, h4, cClaim]
              repeat (refine ⟨by first | omega | (simp only [List.length_cons]; omega), ?_⟩)
              repeat' (first | refine awp_seq ?_ | refine awp_block ?_)
              refine awp_cond true (by rfl) (fun _ => ?_) (fun h => by cases h)
              repeat' (first | refine awp_seq ?_ | refine awp_block ?_)
              refine awp_region [] (gs := [none]) (by rfl) (by kernel_rfl) (by decide) ?_
              simp only [(id F_wFew), (id SS), seval, reduceIte, ne_eq, cEst, h1, h2, h3, hI0, hat0, h4]
              repeat (refine ⟨by first | omega | (simp only [List.length_cons]; omega), ?_⟩)
              repeat' (first | refine awp_seq ?_ | refine awp_block ?_)
              refine awp_ret ?_
              (first | (simp only [(id F_wFew), (id SS), seval, reduceIte, ne_eq, cEst, fewE, h1, h2, h3, hI0, hat0, h4, ← hL0]; done) | (simp only [(id F_wFew), (id SS), seval, reduceIte, ne_eq, cEst]; first | (simp [fewE, h1, h2, h3, hI0, hat0, h4, ← hL0]; done) | (simp [fewE, h1, h2, h3, hI0, hat0, h4]; done) | (rw [← hL0]; simp [fewE, h1, h2, h3, hI0, hat0, h4]; done)))
          · skip
            obtain rfl : k0 = e.claims.length := by omega
            have hI0 : ¬ (e.claims.length : Int) < (e.claims.length : Int) := by omega
            rw [List.drop_length] at hL0
            simp only [fewCl] at hL0
            repeat' (first | refine awp_seq ?_ | refine awp_block ?_)
            refine awp_region [] (gs := [none]) (by rfl) (by kernel_rfl) (by decide) ?_
            simp only [(id F_wFew), (id SS), seval, reduceIte, ne_eq, cEst, h1, h2, h3, hI0]
            repeat (refine ⟨by first | omega | (simp only [List.length_cons]; omega), ?_⟩)
            repeat' (first | refine awp_seq ?_ | refine awp_block ?_)
            refine awp_cond false (by rfl) (fun h => by cases h) (fun _ => ?_)
            refine awp_exit ?_
            simp only [(id F_wFew), (id SS), seval, reduceIte, ne_eq]
            refine ⟨_, wk_keep [1] [1], ?c18_0, ?ci18_0, ?cs18⟩
            case cs18 => (simp only [(id F_wFew), (id SS), seval, reduceIte, ne_eq]; rfl)
            case ci18_0 => (first | assumption | omega | (rw [← hL0]; done) | (rw [hL0]; done) | exact hL0.symm | (simp [← hL0]; done))
        · rintro st ⟨nxc0, hC0, rfl⟩
          repeat' (first | refine awp_seq ?_ | refine awp_block ?_)
          refine awp_region [] (gs := [none, none, none, none]) (by rfl) (by kernel_rfl) (by decide) ?_
          simp only [(id F_wFew), (id SS), seval, reduceIte, ne_eq, cEst, h1, h2, h3, hC0]
          repeat (refine ⟨by first | omega | (simp only [List.length_cons]; omega), ?_⟩)
          refine awp_keep [1, 40, 41, 42] [1] ?_
          simp only [Later, (id F_wFew), (id SS), seval, reduceIte, ne_eq, cEst, h1, h2, h3, hC0]
          repeat' (first | refine awp_seq ?_ | refine awp_block ?_)
          refine awp_loopw (fun n st => ∃ k1 nx, k1 ≤ e.agrs.length ∧ n = e.agrs.length - k1 ∧ fewAg (e.agrs.drop k1) = fewAg e.agrs ∧ st = ⟨mkT [(1, .val (.one (.ptr 1 0 0))), (40, .val (.one (.sh 1 e.agrs.length (flat cAgr e.agrs)))), (41, one (.int .i64 e.agrs.length)), (42, one (.int .i64 k1))], mkH [(1, ⟨0, 67, 5, 1, cEst e⟩)], nx, 0⟩) (e.agrs.length) ⟨0, _, by omega, by omega, by rfl, rfl⟩ ?_
          rintro n1 st ⟨k1, nx1, hk1, rfl, hL1, rfl⟩
          by_cases hlt1 : k1 < e.agrs.length
          · skip
            have hI1 : (k1 : Int) < (e.agrs.length : Int) := by omega
            have hat1 := flat_at cAgr_len e.agrs k1 hlt1
            try rw [Nat.mul_one] at hat1
            rw [List.drop_eq_getElem_cons hlt1] at hL1
            have hA := he.2.2.2 _ (List.getElem_mem hlt1)
            have hn2 := hA.1
            unfold maxLen at hn2
            generalize e.agrs[k1] = a at *
            simp only [fewAg] at hL1
            repeat' (first | refine awp_seq ?_ | refine awp_block ?_)
            refine awp_region [] (gs := [none]) (by rfl) (by kernel_rfl) (by decide) ?_
            simp only [(id F_wFew), (id SS), seval, reduceIte, ne_eq, cEst, h1, h2, h3, hC0, hI1, hat1]
            repeat (refine ⟨by first | omega | (simp only [List.length_cons]; omega), ?_⟩)
            repeat' (first | refine awp_seq ?_ | refine awp_block ?_)
            refine awp_cond true (by rfl) (fun _ => ?_) (fun h => by cases h)
            refine awp_skip ?_
            simp only [(id F_wFew), (id SS), seval, reduceIte, ne_eq]
            repeat' (first | refine awp_seq ?_ | refine awp_block ?_)
            refine awp_region [] (gs := [none, none, none, none]) (by rfl) (by kernel_rfl) (by decide) ?_
            simp only [(id F_wFew), (id SS), seval, reduceIte, ne_eq, cEst, h1, h2, h3, hC0, hI1, hat1, cAgr]
            repeat (refine ⟨by first | omega | (simp only [List.length_cons]; omega), ?_⟩)
            by_cases h5 : (30 : Int) < (a.length : Int)
            · skip
              repeat' (first | refine awp_seq ?_ | refine awp_block ?_)
              refine awp_region [] (gs := [none, none, none, none]) (by rfl) (by kernel_rfl) (by decide) ?_
              simp only [(id F_wFew), (id SS), seval, reduceIte, ne_eq, cEst, h1, h2, h3, hC0, hI1, hat1, h5, cAgr]
              repeat (refine ⟨by first | omega | (simp only [List.length_cons]; omega), ?_⟩)
              repeat' (first | refine awp_seq ?_ | refine awp_block ?_)
              refine awp_cond true (by rfl) (fun _ => ?_) (fun h => by cases h)
              repeat' (first | refine awp_seq ?_ | refine awp_block ?_)
              refine awp_region [] (gs := [none]) (by rfl) (by kernel_rfl) (by decide) ?_
              simp only [(id F_wFew), (id SS), seval, reduceIte, ne_eq, cEst, h1, h2, h3, hC0, hI1, hat1, h5]
              repeat (refine ⟨by first | omega | (simp only [List.length_cons]; omega), ?_⟩)
              repeat' (first | refine awp_seq ?_ | refine awp_block ?_)
              refine awp_ret ?_
              (first | (simp only [(id F_wFew), (id SS), seval, reduceIte, ne_eq, cEst, fewE, h1, h2, h3, hC0, hI1, hat1, h5, ← hL1]; done) | (simp only [(id F_wFew), (id SS), seval, reduceIte, ne_eq, cEst]; first | (simp [fewE, h1, h2, h3, hC0, hI1, hat1, h5, ← hL1]; done) | (simp [fewE, h1, h2, h3, hC0, hI1, hat1, h5]; done) | (rw [← hL1]; simp [fewE, h1, h2, h3, hC0, hI1, hat1, h5]; done)))
            · skip
              repeat' (first | refine awp_seq ?_ | refine awp_block ?_)
              refine awp_region [] (gs := [none, none, none, none]) (by rfl) (by kernel_rfl) (by decide) ?_
              simp only [(id F_wFew), (id SS), seval, reduceIte, ne_eq, cEst, h1, h2, h3, hC0, hI1, hat1, h5, cAgr]
              repeat (refine ⟨by first | omega | (simp only [List.length_cons]; omega), ?_⟩)
              repeat' (first | refine awp_seq ?_ | refine awp_block ?_)
              refine awp_cond false (by rfl) (fun h => by cases h) (fun _ => ?_)
              refine awp_skip ?_
              simp only [(id F_wFew), (id SS), seval, reduceIte, ne_eq]
              repeat' (first | refine awp_seq ?_ | refine awp_block ?_)
              refine awp_region [] (gs := [none, none, none, none]) (by rfl) (by kernel_rfl) (by decide) ?_
              simp only [(id F_wFew), (id SS), seval, reduceIte, ne_eq, cEst, h1, h2, h3, hC0, hI1, hat1, h5, cAgr]
              repeat (refine ⟨by first | omega | (simp only [List.length_cons]; omega), ?_⟩)
              refine awp_keep [1, 40, 41, 42, 51, 52, 53] [1] ?_
              simp only [Later, (id F_wFew), (id SS), seval, reduceIte, ne_eq, cEst, h1, h2, h3, hC0, hI1, hat1, h5]
              repeat' (first | refine awp_seq ?_ | refine awp_block ?_)
              refine awp_loopw (fun n st => ∃ k2 nx, k2 ≤ a.length ∧ n = a.length - k2 ∧ fewTr (a.drop k2) = fewTr a ∧ st = ⟨mkT [(1, .val (.one (.ptr 1 0 0))), (40, .val (.one (.sh 1 e.agrs.length (flat cAgr e.agrs)))), (41, one (.int .i64 e.agrs.length)), (42, one (.int .i64 k1)), (51, .val (.one (.sh 1 a.length (flat cTier a)))), (52, one (.int .i64 a.length)), (53, one (.int .i64 k2))], mkH [(1, ⟨0, 67, 5, 1, cEst e⟩)], nx, 0⟩) (a.length) ⟨0, _, by omega, by omega, by rfl, rfl⟩ ?_
              rintro n2 st ⟨k2, nx2, hk2, rfl, hL2, rfl⟩
              by_cases hlt2 : k2 < a.length
              · skip
                have hI2 : (k2 : Int) < (a.length : Int) := by omega
                have hat2 := flat_at cTier_len a k2 hlt2
                try rw [Nat.mul_one] at hat2
                rw [List.drop_eq_getElem_cons hlt2] at hL2
                have hn3 := (hA.2 _ (List.getElem_mem hlt2)).1
                unfold maxLen at hn3
                generalize a[k2] = t at *
                simp only [fewTr] at hL2
                repeat' (first | refine awp_seq ?_ | refine awp_block ?_)
                refine awp_region [] (gs := [none]) (by rfl) (by kernel_rfl) (by decide) ?_
                simp only [(id F_wFew), (id SS), seval, reduceIte, ne_eq, cEst, h1, h2, h3, hC0, hI1, hat1, h5, hI2, hat2]
                repeat (refine ⟨by first | omega | (simp only [List.length_cons]; omega), ?_⟩)
                repeat' (first | refine awp_seq ?_ | refine awp_block ?_)
                refine awp_cond true (by rfl) (fun _ => ?_) (fun h => by cases h)
                refine awp_skip ?_
                simp only [(id F_wFew), (id SS), seval, reduceIte, ne_eq]
                repeat' (first | refine awp_seq ?_ | refine awp_block ?_)
                refine awp_region [] (gs := [none, none, none]) (by rfl) (by kernel_rfl) (by decide) ?_
                simp only [(id F_wFew), (id SS), seval, reduceIte, ne_eq, cEst, h1, h2, h3, hC0, hI1, hat1, h5, hI2, hat2, cTier]
                repeat (refine ⟨by first | omega | (simp only [List.length_cons]; omega), ?_⟩)
                by_cases h6 : (30 : Int) < (t.length : Int)
                · skip
                  repeat' (first | refine awp_seq ?_ | refine awp_block ?_)
                  refine awp_region [] (gs := [none, none, none]) (by rfl) (by kernel_rfl) (by decide) ?_
                  simp only [(id F_wFew), (id SS), seval, reduceIte, ne_eq, cEst, h1, h2, h3, hC0, hI1, hat1, h5, hI2, hat2, h6]
                  repeat (refine ⟨by first | omega | (simp only [List.length_cons]; omega), ?_⟩)
                  repeat' (first | refine awp_seq ?_ | refine awp_block ?_)
                  refine awp_cond true (by rfl) (fun _ => ?_) (fun h => by cases h)
                  repeat' (first | refine awp_seq ?_ | refine awp_block ?_)
                  refine awp_region [] (gs := [none]) (by rfl) (by kernel_rfl) (by decide) ?_
                  simp only [(id F_wFew), (id SS), seval, reduceIte, ne_eq, cEst, h1, h2, h3, hC0, hI1, hat1, h5, hI2, hat2, h6]
                  repeat (refine ⟨by first | omega | (simp only [List.length_cons]; omega), ?_⟩)
                  repeat' (first | refine awp_seq ?_ | refine awp_block ?_)
                  refine awp_ret ?_
                  (first | (simp only [(id F_wFew), (id SS), seval, reduceIte, ne_eq, cEst, fewE, h1, h2, h3, hC0, hI1, hat1, h5, hI2, hat2, h6, ← hL1, ← hL2]; done) | (simp only [(id F_wFew), (id SS), seval, reduceIte, ne_eq, cEst]; first | (simp [fewE, h1, h2, h3, hC0, hI1, hat1, h5, hI2, hat2, h6, ← hL1, ← hL2]; done) | (simp [fewE, h1, h2, h3, hC0, hI1, hat1, h5, hI2, hat2, h6]; done) | (rw [← hL1, ← hL2]; simp [fewE, h1, h2, h3, hC0, hI1, hat1, h5, hI2, hat2, h6]; done)))
                · skip
                  repeat' (first | refine awp_seq ?_ | refine awp_block ?_)
                  refine awp_region [] (gs := [none, none, none]) (by rfl) (by kernel_rfl) (by decide) ?_
                  simp only [(id F_wFew), (id SS), seval, reduceIte, ne_eq, cEst, h1, h2, h3, hC0, hI1, hat1, h5, hI2, hat2, h6]
                  repeat (refine ⟨by first | omega | (simp only [List.length_cons]; omega), ?_⟩)
                  repeat' (first | refine awp_seq ?_ | refine awp_block ?_)
                  refine awp_cond false (by rfl) (fun h => by cases h) (fun _ => ?_)
                  refine awp_skip ?_
                  simp only [(id F_wFew), (id SS), seval, reduceIte, ne_eq]
                  repeat' (first | refine awp_seq ?_ | refine awp_block ?_)
                  refine awp_region [] (gs := [none, none, none]) (by rfl) (by kernel_rfl) (by decide) ?_
                  simp only [(id F_wFew), (id SS), seval, reduceIte, ne_eq, cEst, h1, h2, h3, hC0, hI1, hat1, h5, hI2, hat2, h6]
                  repeat (refine ⟨by first | omega | (simp only [List.length_cons]; omega), ?_⟩)
                  refine awp_keep [1, 40, 41, 42, 51, 52, 53, 60, 61, 62] [1] ?_
                  simp only [Later, (id F_wFew), (id SS), seval, reduceIte, ne_eq, cEst, h1, h2, h3, hC0, hI1, hat1, h5, hI2, hat2, h6]
                  repeat' (first | refine awp_seq ?_ | refine awp_block ?_)
                  refine awp_loopw (fun n st => ∃ k3 nx, k3 ≤ t.length ∧ n = t.length - k3 ∧ fewPt (t.drop k3) = fewPt t ∧ st = ⟨mkT [(1, .val (.one (.ptr 1 0 0))), (40, .val (.one (.sh 1 e.agrs.length (flat cAgr e.agrs)))), (41, one (.int .i64 e.agrs.length)), (42, one (.int .i64 k1)), (51, .val (.one (.sh 1 a.length (flat cTier a)))), (52, one (.int .i64 a.length)), (53, one (.int .i64 k2)), (60, .val (.one (.sh 5 t.length (flat cPart t)))), (61, one (.int .i64 t.length)), (62, one (.int .i64 k3))], mkH [(1, ⟨0, 67, 5, 1, cEst e⟩)], nx, 0⟩) (t.length) ⟨0, _, by omega, by omega, by rfl, rfl⟩ ?_
                  rintro n3 st ⟨k3, nx3, hk3, rfl, hL3, rfl⟩
                  by_cases hlt3 : k3 < t.length
                  · skip
                    have hI3 : (k3 : Int) < (t.length : Int) := by omega
                    have hat3 := flat_at cPart_len t k3 hlt3
                    try rw [Nat.mul_one] at hat3
                    rw [List.drop_eq_getElem_cons hlt3] at hL3
                    generalize t[k3] = p at *
                    simp only [fewPt] at hL3
                    repeat' (first | refine awp_seq ?_ | refine awp_block ?_)
                    refine awp_region [] (gs := [none]) (by rfl) (by kernel_rfl) (by decide) ?_
                    simp only [(id F_wFew), (id SS), seval, reduceIte, ne_eq, cEst, h1, h2, h3, hC0, hI1, hat1, h5, hI2, hat2, h6, hI3, hat3]
                    repeat (refine ⟨by first | omega | (simp only [List.length_cons]; omega), ?_⟩)
                    repeat' (first | refine awp_seq ?_ | refine awp_block ?_)
                    refine awp_cond true (by rfl) (fun _ => ?_) (fun h => by cases h)
                    refine awp_skip ?_
                    simp only [(id F_wFew), (id SS), seval, reduceIte, ne_eq]
                    repeat' (first | refine awp_seq ?_ | refine awp_block ?_)
                    refine awp_region [] (gs := [none, none, none, none]) (by rfl) (by kernel_rfl) (by decide) ?_
                    simp only [(id F_wFew), (id SS), seval, reduceIte, ne_eq, cEst, h1, h2, h3, hC0, hI1, hat1, h5, hI2, hat2, h6, hI3, hat3, cPart]
                    repeat (refine ⟨by first | omega | (simp only [List.length_cons]; omega), ?_⟩)
                    by_cases h7 : fewR p.cap = true
                    · skip
                      repeat' (first | refine awp_seq ?_ | refine awp_block ?_)
                      refine awp_region [] (gs := [none, none, none, none]) (by rfl) (by kernel_rfl) (by decide) ?_
                      simp only [(id F_wFew), (id SS), seval, reduceIte, ne_eq, cEst, h1, h2, h3, hC0, hI1, hat1, h5, hI2, hat2, h6, hI3, hat3, h7, cPart]
                      repeat (refine ⟨by first | omega | (simp only [List.length_cons]; omega), ?_⟩)
                      refine ⟨_, fewR_A p.cap, rfl, ?_⟩
                      simp only [Later, (id F_wFew), (id SS), seval, reduceIte, ne_eq, cEst, h1, h2, h3, hC0, hI1, hat1, h5, hI2, hat2, h6, hI3, hat3, h7, cPart]
                      repeat (refine ⟨by first | omega | (simp only [List.length_cons]; omega), ?_⟩)
                      repeat' (first | refine awp_seq ?_ | refine awp_block ?_)
                      refine awp_cond false (by rfl) (fun h => by cases h) (fun _ => ?_)
                      refine awp_skip ?_
                      simp only [(id F_wFew), (id SS), seval, reduceIte, ne_eq]
                      repeat' (first | refine awp_seq ?_ | refine awp_block ?_)
                      refine awp_region [] (gs := [none, none]) (by rfl) (by kernel_rfl) (by decide) ?_
                      simp only [(id F_wFew), (id SS), seval, reduceIte, ne_eq, cEst, h1, h2, h3, hC0, hI1, hat1, h5, hI2, hat2, h6, hI3, hat3, h7]
                      repeat (refine ⟨by first | omega | (simp only [List.length_cons]; omega), ?_⟩)
                      repeat (refine ⟨by first | omega | (simp only [List.length_cons]; omega), ?_⟩)
                      refine ⟨_, wk_keep [1, 40, 41, 42, 51, 52, 53, 60, 61, 62] [1], t.length - (k3 + 1), by omega, k3 + 1, ?a38_nx, by omega, rfl, ?i38_0, ?st38⟩
                      case st38 => (simp only [(id F_wFew), (id SS), seval, reduceIte, ne_eq, cEst]; first | rfl | (simp [Nat.add_mul]; done))
                      case i38_0 => (first | exact hL3 | (rw [← hL3]; simp only [reduceIte, h1, h2, h3, hC0, hI1, hat1, h5, hI2, hat2, h6, hI3, hat3, h7]; done) | (rw [← hL3]; simp [h1, h2, h3, hC0, hI1, hat1, h5, hI2, hat2, h6, hI3, hat3, h7]; done) | (simp [h1, h2, h3, hC0, hI1, hat1, h5, hI2, hat2, h6, hI3, hat3, h7] at hL3; simpa using hL3) | (rw [← hL3]; simp [*]; done))
                    · skip
                      repeat' (first | refine awp_seq ?_ | refine awp_block ?_)
                      refine awp_region [] (gs := [none, none, none, none]) (by rfl) (by kernel_rfl) (by decide) ?_
                      simp only [(id F_wFew), (id SS), seval, reduceIte, ne_eq, cEst, h1, h2, h3, hC0, hI1, hat1, h5, hI2, hat2, h6, hI3, hat3, h7, cPart]
                      repeat (refine ⟨by first | omega | (simp only [List.length_cons]; omega), ?_⟩)
                      refine ⟨_, fewR_A p.cap, rfl, ?_⟩
                      simp only [Later, (id F_wFew), (id SS), seval, reduceIte, ne_eq, cEst, h1, h2, h3, hC0, hI1, hat1, h5, hI2, hat2, h6, hI3, hat3, h7, cPart]
                      repeat (refine ⟨by first | omega | (simp only [List.length_cons]; omega), ?_⟩)
                      repeat' (first | refine awp_seq ?_ | refine awp_block ?_)
                      refine awp_cond true (by rfl) (fun _ => ?_) (fun h => by cases h)
                      repeat' (first | refine awp_seq ?_ | refine awp_block ?_)
                      refine awp_region [] (gs := [none]) (by rfl) (by kernel_rfl) (by decide) ?_
                      simp only [(id F_wFew), (id SS), seval, reduceIte, ne_eq, cEst, h1, h2, h3, hC0, hI1, hat1, h5, hI2, hat2, h6, hI3, hat3, h7]
                      repeat (refine ⟨by first | omega | (simp only [List.length_cons]; omega), ?_⟩)
                      repeat' (first | refine awp_seq ?_ | refine awp_block ?_)
                      refine awp_ret ?_
                      (first | (simp only [(id F_wFew), (id SS), seval, reduceIte, ne_eq, cEst, fewE, h1, h2, h3, hC0, hI1, hat1, h5, hI2, hat2, h6, hI3, hat3, h7, ← hL1, ← hL2, ← hL3]; done) | (simp only [(id F_wFew), (id SS), seval, reduceIte, ne_eq, cEst]; first | (simp [fewE, h1, h2, h3, hC0, hI1, hat1, h5, hI2, hat2, h6, hI3, hat3, h7, ← hL1, ← hL2, ← hL3]; done) | (simp [fewE, h1, h2, h3, hC0, hI1, hat1, h5, hI2, hat2, h6, hI3, hat3, h7]; done) | (rw [← hL1, ← hL2, ← hL3]; simp [fewE, h1, h2, h3, hC0, hI1, hat1, h5, hI2, hat2, h6, hI3, hat3, h7]; done)))
                  · skip
                    obtain rfl : k3 = t.length := by omega
                    have hI3 : ¬ (t.length : Int) < (t.length : Int) := by omega
                    rw [List.drop_length] at hL3
                    simp only [fewPt] at hL3
                    repeat' (first | refine awp_seq ?_ | refine awp_block ?_)
                    refine awp_region [] (gs := [none]) (by rfl) (by kernel_rfl) (by decide) ?_
                    simp only [(id F_wFew), (id SS), seval, reduceIte, ne_eq, cEst, h1, h2, h3, hC0, hI1, hat1, h5, hI2, hat2, h6, hI3]
                    repeat (refine ⟨by first | omega | (simp only [List.length_cons]; omega), ?_⟩)
                    repeat' (first | refine awp_seq ?_ | refine awp_block ?_)
                    refine awp_cond false (by rfl) (fun h => by cases h) (fun _ => ?_)
                    refine awp_exit ?_
                    simp only [(id F_wFew), (id SS), seval, reduceIte, ne_eq]
                    repeat' (first | refine awp_seq ?_ | refine awp_block ?_)
                    refine awp_region [] (gs := [none, none]) (by rfl) (by kernel_rfl) (by decide) ?_
                    simp only [(id F_wFew), (id SS), seval, reduceIte, ne_eq, cEst, h1, h2, h3, hC0, hI1, hat1, h5, hI2, hat2, h6, hI3]
                    repeat (refine ⟨by first | omega | (simp only [List.length_cons]; omega), ?_⟩)
                    repeat (refine ⟨by first | omega | (simp only [List.length_cons]; omega), ?_⟩)
                    refine ⟨_, wk_keep [1, 40, 41, 42, 51, 52, 53] [1], a.length - (k2 + 1), by omega, k2 + 1, ?a44_nx, by omega, rfl, ?i44_0, ?st44⟩
                    case st44 => (simp only [(id F_wFew), (id SS), seval, reduceIte, ne_eq, cEst]; first | rfl | (simp [Nat.add_mul]; done))
                    case i44_0 => (first | exact hL2 | (rw [← hL2]; simp only [reduceIte, h1, h2, h3, hC0, hI1, hat1, h5, hI2, hat2, h6, hI3]; done) | (rw [← hL2]; simp [h1, h2, h3, hC0, hI1, hat1, h5, hI2, hat2, h6, hI3]; done) | (simp [h1, h2, h3, hC0, hI1, hat1, h5, hI2, hat2, h6, hI3] at hL2; simpa using hL2) | (rw [← hL2]; simp [*]; done))
              · skip
                obtain rfl : k2 = a.length := by omega
                have hI2 : ¬ (a.length : Int) < (a.length : Int) := by omega
                rw [List.drop_length] at hL2
                simp only [fewTr] at hL2
                repeat' (first | refine awp_seq ?_ | refine awp_block ?_)
                refine awp_region [] (gs := [none]) (by rfl) (by kernel_rfl) (by decide) ?_
                simp only [(id F_wFew), (id SS), seval, reduceIte, ne_eq, cEst, h1, h2, h3, hC0, hI1, hat1, h5, hI2]
                repeat (refine ⟨by first | omega | (simp only [List.length_cons]; omega), ?_⟩)
                repeat' (first | refine awp_seq ?_ | refine awp_block ?_)
                refine awp_cond false (by rfl) (fun h => by cases h) (fun _ => ?_)
                refine awp_exit ?_
                simp only [(id F_wFew), (id SS), seval, reduceIte, ne_eq]
                repeat' (first | refine awp_seq ?_ | refine awp_block ?_)
                refine awp_region [] (gs := [none, none]) (by rfl) (by kernel_rfl) (by decide) ?_
                simp only [(id F_wFew), (id SS), seval, reduceIte, ne_eq, cEst, h1, h2, h3, hC0, hI1, hat1, h5, hI2]
                repeat (refine ⟨by first | omega | (simp only [List.length_cons]; omega), ?_⟩)
                repeat (refine ⟨by first | omega | (simp only [List.length_cons]; omega), ?_⟩)
                refine ⟨_, wk_keep [1, 40, 41, 42] [1], e.agrs.length - (k1 + 1), by omega, k1 + 1, ?a47_nx, by omega, rfl, ?i47_0, ?st47⟩
                case st47 => (simp only [(id F_wFew), (id SS), seval, reduceIte, ne_eq, cEst]; first | rfl | (simp [Nat.add_mul]; done))
                case i47_0 => (first | exact hL1 | (rw [← hL1]; simp only [reduceIte, h1, h2, h3, hC0, hI1, hat1, h5, hI2]; done) | (rw [← hL1]; simp [h1, h2, h3, hC0, hI1, hat1, h5, hI2]; done) | (simp [h1, h2, h3, hC0, hI1, hat1, h5, hI2] at hL1; simpa using hL1) | (rw [← hL1]; simp [*]; done))
          · skip
            obtain rfl : k1 = e.agrs.length := by omega
            have hI1 : ¬ (e.agrs.length : Int) < (e.agrs.length : Int) := by omega
            rw [List.drop_length] at hL1
            simp only [fewAg] at hL1
            repeat' (first | refine awp_seq ?_ | refine awp_block ?_)
            refine awp_region [] (gs := [none]) (by rfl) (by kernel_rfl) (by decide) ?_
            simp only [(id F_wFew), (id SS), seval, reduceIte, ne_eq, cEst, h1, h2, h3, hC0, hI1]
            repeat (refine ⟨by first | omega | (simp only [List.length_cons]; omega), ?_⟩)
            repeat' (first | refine awp_seq ?_ | refine awp_block ?_)
            refine awp_cond false (by rfl) (fun h => by cases h) (fun _ => ?_)
            refine awp_exit ?_
            simp only [(id F_wFew), (id SS), seval, reduceIte, ne_eq]
            repeat' (first | refine awp_seq ?_ | refine awp_block ?_)
            refine awp_region [] (gs := [none]) (by rfl) (by kernel_rfl) (by decide) ?_
            simp only [(id F_wFew), (id SS), seval, reduceIte, ne_eq, cEst, h1, h2, h3, hC0, hI1]
            repeat (refine ⟨by first | omega | (simp only [List.length_cons]; omega), ?_⟩)
            repeat' (first | refine awp_seq ?_ | refine awp_block ?_)
            refine awp_ret ?_
            (first | (simp only [(id F_wFew), (id SS), seval, reduceIte, ne_eq, cEst, fewE, h1, h2, h3, hC0, hI1, ← hL1]; done) | (simp only [(id F_wFew), (id SS), seval, reduceIte, ne_eq, cEst]; first | (simp [fewE, h1, h2, h3, hC0, hI1, ← hL1]; done) | (simp [fewE, h1, h2, h3, hC0, hI1]; done) | (rw [← hL1]; simp [fewE, h1, h2, h3, hC0, hI1]; done)))
      · skip
        repeat' (first | refine awp_seq ?_ | refine awp_block ?_)
        refine awp_region [] (gs := [none, none, none, none, none, some (15, false), some (15, false), some (15, false), some (15, false), none, none, some (21, false), some (21, false), some (21, false), some (21, false), none]) (by rfl) (by kernel_rfl) (by decide) ?_
        simp only [(id F_wFew), (id SS), seval, reduceIte, ne_eq, cEst, h1, h2, h3]
        repeat (refine ⟨by first | omega | (simp only [List.length_cons]; omega), ?_⟩)
        refine ⟨_, fewR_A e.cash, rfl, ?_⟩
        simp only [Later, (id F_wFew), (id SS), seval, reduceIte, ne_eq, cEst, h1, h2, h3]
        repeat (refine ⟨by first | omega | (simp only [List.length_cons]; omega), ?_⟩)
        repeat' (first | refine awp_seq ?_ | refine awp_block ?_)
        refine awp_cond true (by rfl) (fun _ => ?_) (fun h => by cases h)
        repeat' (first | refine awp_seq ?_ | refine awp_block ?_)
        refine awp_region [] (gs := [none]) (by rfl) (by kernel_rfl) (by decide) ?_
        simp only [(id F_wFew), (id SS), seval, reduceIte, ne_eq, cEst, h1, h2, h3]
        repeat (refine ⟨by first | omega | (simp only [List.length_cons]; omega), ?_⟩)
        repeat' (first | refine awp_seq ?_ | refine awp_block ?_)
        refine awp_ret ?_
        (first | (simp only [(id F_wFew), (id SS), seval, reduceIte, ne_eq, cEst, fewE, h1, h2, h3]; done) | (simp only [(id F_wFew), (id SS), seval, reduceIte, ne_eq, cEst]; first | (simp [fewE, h1, h2, h3]; done) | (simp [fewE, h1, h2, h3]; done)))

theorem gFew_ar28 : arT Tryz.prog 28 = none := by kernel_rfl
theorem gFew_ar27 : arT Tryz.prog 27 = none := by kernel_rfl
theorem gFew_el28 : elT Tryz.prog 28 = some (50, 4, 64) := by kernel_rfl
theorem gFew_el27 : elT Tryz.prog 27 = some (67, 5, 88) := by kernel_rfl
theorem gFew_el48 : elT Tryz.prog 48 = some (39, 2, 16) := by kernel_rfl
theorem gFew_fo50_0 : foT Tryz.prog 50 0 = some (0, 44) := by kernel_rfl
theorem gFew_fo50_1 : foT Tryz.prog 50 1 = some (3, 48) := by kernel_rfl
theorem gFew_fo30_0 : foT Tryz.prog 30 0 = some (0, 27) := by kernel_rfl
theorem gFew_fo30_1 : foT Tryz.prog 30 1 = some (1, 28) := by kernel_rfl
theorem gFew_ld28 : ldT Tryz.prog 28 = some (false, 1) := by kernel_rfl
theorem gFew_ld27 : ldT Tryz.prog 27 = some (false, 1) := by kernel_rfl
theorem gFew_ld48 : ldT Tryz.prog 48 = some (false, 1) := by kernel_rfl
theorem gFew_ld50 : ldT Tryz.prog 50 = some (true, 4) := by kernel_rfl
theorem gFew_ld67 : ldT Tryz.prog 67 = some (true, 5) := by kernel_rfl
theorem gFew_ld44 : ldT Tryz.prog 44 = some (true, 3) := by kernel_rfl
theorem gFew_zr50 : zrT Tryz.prog 50 = some [.bool false, .string bEmpty, .string bEmpty, .slice none 0 0] := by kernel_rfl
theorem gFew_zr67 : zrT Tryz.prog 67 = some [.bool false, .string bEmpty, .string bEmpty, .slice none 0 0, .slice none 0 0] := by kernel_rfl
def F_gFew := And.intro gFew_ar28 (And.intro gFew_ar27 (And.intro gFew_el28 (And.intro gFew_el27 (And.intro gFew_el48 (And.intro gFew_fo50_0 (And.intro gFew_fo50_1 (And.intro gFew_fo30_0 (And.intro gFew_fo30_1 (And.intro gFew_ld28 (And.intro gFew_ld27 (And.intro gFew_ld48 (And.intro gFew_ld50 (And.intro gFew_ld67 (And.intro gFew_ld44 (And.intro gFew_zr50 (gFew_zr67))))))))))))))))

set_option maxHeartbeats 4000000 in
theorem fewG_A (g : GGrp) (hg : okGrp g) : ACall Tryz.prog 33 [.agg (cGrp g)] (one (.bool (fewG g))) := by
  have hn0 := hg.1.1
  have hn1 := hg.2.1
  unfold maxLen at hn0 hn1
  refine acall_of Tryz.func33 rfl (by decide) (N := 46) rfl (by simp) (R := [.tmp 2]) rfl fun en k0 => ?_
  repeat' (first | refine awp_seq ?_ | refine awp_block ?_)
  refine awp_region [] (gs := [none, none]) (by rfl) (by kernel_rfl) (by decide) ?_
  simp only [(id F_gFew), (id SS), seval, reduceIte, ne_eq, cGrp]
  repeat (refine ⟨by first | omega | (simp only [List.length_cons]; omega), ?_⟩)
  by_cases h1 : (4 : Int) < (g.ests.length : Int)
  · skip
    repeat' (first | refine awp_seq ?_ | refine awp_block ?_)
    refine awp_region [] (gs := [none, none, none, none, none, some (11, false), some (11, false), some (11, false), some (11, false), none]) (by rfl) (by kernel_rfl) (by decide) ?_
    simp only [(id F_gFew), (id SS), seval, reduceIte, ne_eq, cGrp, h1]
    repeat (refine ⟨by first | omega | (simp only [List.length_cons]; omega), ?_⟩)
    repeat' (first | refine awp_seq ?_ | refine awp_block ?_)
    refine awp_cond true (by rfl) (fun _ => ?_) (fun h => by cases h)
    repeat' (first | refine awp_seq ?_ | refine awp_block ?_)
    refine awp_region [] (gs := [none]) (by rfl) (by kernel_rfl) (by decide) ?_
    simp only [(id F_gFew), (id SS), seval, reduceIte, ne_eq, cGrp, h1]
    repeat (refine ⟨by first | omega | (simp only [List.length_cons]; omega), ?_⟩)
    repeat' (first | refine awp_seq ?_ | refine awp_block ?_)
    refine awp_ret ?_
    (first | (simp only [(id F_gFew), (id SS), seval, reduceIte, ne_eq, cGrp, fewG, h1]; done) | (simp only [(id F_gFew), (id SS), seval, reduceIte, ne_eq, cGrp]; first | (simp [fewG, h1]; done) | (simp [fewG, h1]; done)))
  · skip
    by_cases h2 : (5 : Int) < (g.debts.length : Int)
    · skip
      repeat' (first | refine awp_seq ?_ | refine awp_block ?_)
      refine awp_region [] (gs := [none, none, none, none, none, some (11, false), some (11, false), some (11, false), some (11, false), none]) (by rfl) (by kernel_rfl) (by decide) ?_
      simp only [(id F_gFew), (id SS), seval, reduceIte, ne_eq, cGrp, h1, h2]
      repeat (refine ⟨by first | omega | (simp only [List.length_cons]; omega), ?_⟩)
      repeat' (first | refine awp_seq ?_ | refine awp_block ?_)
      refine awp_cond true (by rfl) (fun _ => ?_) (fun h => by cases h)
      repeat' (first | refine awp_seq ?_ | refine awp_block ?_)
      refine awp_region [] (gs := [none]) (by rfl) (by kernel_rfl) (by decide) ?_
      simp only [(id F_gFew), (id SS), seval, reduceIte, ne_eq, cGrp, h1, h2]
      repeat (refine ⟨by first | omega | (simp only [List.length_cons]; omega), ?_⟩)
      repeat' (first | refine awp_seq ?_ | refine awp_block ?_)
      refine awp_ret ?_
      (first | (simp only [(id F_gFew), (id SS), seval, reduceIte, ne_eq, cGrp, fewG, h1, h2]; done) | (simp only [(id F_gFew), (id SS), seval, reduceIte, ne_eq, cGrp]; first | (simp [fewG, h1, h2]; done) | (simp [fewG, h1, h2]; done)))
    · skip
      repeat' (first | refine awp_seq ?_ | refine awp_block ?_)
      refine awp_region [] (gs := [none, none, none, none, none, some (11, false), some (11, false), some (11, false), some (11, false), none]) (by rfl) (by kernel_rfl) (by decide) ?_
      simp only [(id F_gFew), (id SS), seval, reduceIte, ne_eq, cGrp, h1, h2]
      repeat (refine ⟨by first | omega | (simp only [List.length_cons]; omega), ?_⟩)
      repeat' (first | refine awp_seq ?_ | refine awp_block ?_)
      refine awp_cond false (by rfl) (fun h => by cases h) (fun _ => ?_)
      refine awp_skip ?_
      simp only [(id F_gFew), (id SS), seval, reduceIte, ne_eq]
      refine awp_cut (M := fun st => ∃ nx, fewEs g.ests = true ∧ st = ⟨mkT [(1, .val (.one (.ptr 1 0 0)))], mkH [(1, ⟨0, 30, 2, 1, cGrp g⟩)], nx, 0⟩) ?_ ?_
      · skip
        repeat' (first | refine awp_seq ?_ | refine awp_block ?_)
        refine awp_region [] (gs := [none, none, none, none]) (by rfl) (by kernel_rfl) (by decide) ?_
        simp only [(id F_gFew), (id SS), seval, reduceIte, ne_eq, cGrp, h1, h2]
        repeat (refine ⟨by first | omega | (simp only [List.length_cons]; omega), ?_⟩)
        refine awp_keep [1, 18, 19, 20] [1] ?_
        simp only [Later, (id F_gFew), (id SS), seval, reduceIte, ne_eq, cGrp, h1, h2]
        repeat' (first | refine awp_seq ?_ | refine awp_block ?_)
        refine awp_loopw (fun n st => ∃ k0 nx, k0 ≤ g.ests.length ∧ n = g.ests.length - k0 ∧ fewEs (g.ests.drop k0) = fewEs g.ests ∧ st = ⟨mkT [(1, .val (.one (.ptr 1 0 0))), (18, .val (.one (.sh 5 g.ests.length (flat cEst g.ests)))), (19, one (.int .i64 g.ests.length)), (20, one (.int .i64 k0))], mkH [(1, ⟨0, 30, 2, 1, cGrp g⟩)], nx, 0⟩) (g.ests.length) ⟨0, _, by omega, by omega, by rfl, rfl⟩ ?_
        rintro n0 st ⟨k0, nx0, hk0, rfl, hL0, rfl⟩
        by_cases hlt0 : k0 < g.ests.length
        · skip
          have hI0 : (k0 : Int) < (g.ests.length : Int) := by omega
          have hat0 := flat_at cEst_len g.ests k0 hlt0
          try rw [Nat.mul_one] at hat0
          rw [List.drop_eq_getElem_cons hlt0] at hL0
          have hE := hg.1.2 _ (List.getElem_mem hlt0)
          generalize g.ests[k0] = e at *
          simp only [fewEs] at hL0
          repeat' (first | refine awp_seq ?_ | refine awp_block ?_)
          refine awp_region [] (gs := [none]) (by rfl) (by kernel_rfl) (by decide) ?_
          simp only [(id F_gFew), (id SS), seval, reduceIte, ne_eq, cGrp, h1, h2, hI0, hat0]
          repeat (refine ⟨by first | omega | (simp only [List.length_cons]; omega), ?_⟩)
          repeat' (first | refine awp_seq ?_ | refine awp_block ?_)
          refine awp_cond true (by rfl) (fun _ => ?_) (fun h => by cases h)
          refine awp_skip ?_
          simp only [(id F_gFew), (id SS), seval, reduceIte, ne_eq]
          repeat' (first | refine awp_seq ?_ | refine awp_block ?_)
          refine awp_region [] (gs := [none, none, none, none]) (by rfl) (by kernel_rfl) (by decide) ?_
          simp only [(id F_gFew), (id SS), seval, reduceIte, ne_eq, cGrp, h1, h2, hI0, hat0, cEst]
          repeat (refine ⟨by first | omega | (simp only [List.length_cons]; omega), ?_⟩)
          by_cases h3 : fewE e = true
          · skip
            repeat' (first | refine awp_seq ?_ | refine awp_block ?_)
            refine awp_region [] (gs := [none, none, none]) (by rfl) (by kernel_rfl) (by decide) ?_
            simp only [(id F_gFew), (id SS), seval, reduceIte, ne_eq, cGrp, h1, h2, hI0, hat0, h3, cEst, flat_pure cClaim_pure, flat_pure cAgr_pure]
            repeat (refine ⟨by first | omega | (simp only [List.length_cons]; omega), ?_⟩)
            refine ⟨_, (fewE_A e hE), rfl, ?_⟩
            simp only [Later, (id F_gFew), (id SS), seval, reduceIte, ne_eq, cGrp, h1, h2, hI0, hat0, h3, cEst, flat_pure cClaim_pure, flat_pure cAgr_pure]
            repeat (refine ⟨by first | omega | (simp only [List.length_cons]; omega), ?_⟩)
            repeat' (first | refine awp_seq ?_ | refine awp_block ?_)
            refine awp_cond false (by rfl) (fun h => by cases h) (fun _ => ?_)
            refine awp_skip ?_
            simp only [(id F_gFew), (id SS), seval, reduceIte, ne_eq]
            repeat' (first | refine awp_seq ?_ | refine awp_block ?_)
            refine awp_region [] (gs := [none, none]) (by rfl) (by kernel_rfl) (by decide) ?_
            simp only [(id F_gFew), (id SS), seval, reduceIte, ne_eq, cGrp, h1, h2, hI0, hat0, h3]
            repeat (refine ⟨by first | omega | (simp only [List.length_cons]; omega), ?_⟩)
            repeat (refine ⟨by first | omega | (simp only [List.length_cons]; omega), ?_⟩)
            refine ⟨_, wk_keep [1, 18, 19, 20] [1], g.ests.length - (k0 + 1), by omega, k0 + 1, ?a13_nx, by omega, rfl, ?i13_0, ?st13⟩
            case st13 => (simp only [(id F_gFew), (id SS), seval, reduceIte, ne_eq, cGrp]; first | rfl | (simp [Nat.add_mul]; done))
            case i13_0 => (first | exact hL0 | (rw [← hL0]; simp only [reduceIte, h1, h2, hI0, hat0, h3]; done) | (rw [← hL0]; simp [h1, h2, hI0, hat0, h3]; done) | (simp [h1, h2, hI0, hat0, h3] at hL0; simpa using hL0) | (rw [← hL0]; simp [*]; done))
          · skip
            repeat' (first | refine awp_seq ?_ | refine awp_block ?_)
            refine awp_region [] (gs := [none, none, none]) (by rfl) (by kernel_rfl) (by decide) ?_
            simp only [(id F_gFew), (id SS), seval, reduceIte, ne_eq, cGrp, h1, h2, hI0, hat0, h3, cEst, flat_pure cClaim_pure, flat_pure cAgr_pure]
            repeat (refine ⟨by first | omega | (simp only [List.length_cons]; omega), ?_⟩)
            refine ⟨_, (fewE_A e hE), rfl, ?_⟩
            simp only [Later, (id F_gFew), (id SS), seval, reduceIte, ne_eq, cGrp, h1, h2, hI0, hat0, h3, cEst, flat_pure cClaim_pure, flat_pure cAgr_pure]
            repeat (refine ⟨by first | omega | (simp only [List.length_cons]; omega), ?_⟩)
            repeat' (first | refine awp_seq ?_ | refine awp_block ?_)
            refine awp_cond true (by rfl) (fun _ => ?_) (fun h => by cases h)
            repeat' (first | refine awp_seq ?_ | refine awp_block ?_)
            refine awp_region [] (gs := [none]) (by rfl) (by kernel_rfl) (by decide) ?_
            simp only [(id F_gFew), (id SS), seval, reduceIte, ne_eq, cGrp, h1, h2, hI0, hat0, h3]
            repeat (refine ⟨by first | omega | (simp only [List.length_cons]; omega), ?_⟩)
            repeat' (first | refine awp_seq ?_ | refine awp_block ?_)
            refine awp_ret ?_
            (first | (simp only [(id F_gFew), (id SS), seval, reduceIte, ne_eq, cGrp, fewG, h1, h2, hI0, hat0, h3, ← hL0]; done) | (simp only [(id F_gFew), (id SS), seval, reduceIte, ne_eq, cGrp]; first | (simp [fewG, h1, h2, hI0, hat0, h3, ← hL0]; done) | (simp [fewG, h1, h2, hI0, hat0, h3]; done) | (rw [← hL0]; simp [fewG, h1, h2, hI0, hat0, h3]; done)))
        · skip
          obtain rfl : k0 = g.ests.length := by omega
          have hI0 : ¬ (g.ests.length : Int) < (g.ests.length : Int) := by omega
          rw [List.drop_length] at hL0
          simp only [fewEs] at hL0
          repeat' (first | refine awp_seq ?_ | refine awp_block ?_)
          refine awp_region [] (gs := [none]) (by rfl) (by kernel_rfl) (by decide) ?_
          simp only [(id F_gFew), (id SS), seval, reduceIte, ne_eq, cGrp, h1, h2, hI0]
          repeat (refine ⟨by first | omega | (simp only [List.length_cons]; omega), ?_⟩)
          repeat' (first | refine awp_seq ?_ | refine awp_block ?_)
          refine awp_cond false (by rfl) (fun h => by cases h) (fun _ => ?_)
          refine awp_exit ?_
          simp only [(id F_gFew), (id SS), seval, reduceIte, ne_eq]
          refine ⟨_, wk_keep [1] [1], ?c18_0, ?ci18_0, ?cs18⟩
          case cs18 => (simp only [(id F_gFew), (id SS), seval, reduceIte, ne_eq]; rfl)
          case ci18_0 => (first | assumption | omega | (rw [← hL0]; done) | (rw [hL0]; done) | exact hL0.symm | (simp [← hL0]; done))
      · rintro st ⟨nxc0, hC0, rfl⟩
        repeat' (first | refine awp_seq ?_ | refine awp_block ?_)
        refine awp_region [] (gs := [none, none, none, none]) (by rfl) (by kernel_rfl) (by decide) ?_
        simp only [(id F_gFew), (id SS), seval, reduceIte, ne_eq, cGrp, h1, h2, hC0]
        repeat (refine ⟨by first | omega | (simp only [List.length_cons]; omega), ?_⟩)
        refine awp_keep [1, 29, 30, 31] [1] ?_
        simp only [Later, (id F_gFew), (id SS), seval, reduceIte, ne_eq, cGrp, h1, h2, hC0]
        repeat' (first | refine awp_seq ?_ | refine awp_block ?_)
        refine awp_loopw (fun n st => ∃ k1 nx, k1 ≤ g.debts.length ∧ n = g.debts.length - k1 ∧ fewDs (g.debts.drop k1) = fewDs g.debts ∧ st = ⟨mkT [(1, .val (.one (.ptr 1 0 0))), (29, .val (.one (.sh 4 g.debts.length (flat cDebt g.debts)))), (30, one (.int .i64 g.debts.length)), (31, one (.int .i64 k1))], mkH [(1, ⟨0, 30, 2, 1, cGrp g⟩)], nx, 0⟩) (g.debts.length) ⟨0, _, by omega, by omega, by rfl, rfl⟩ ?_
        rintro n1 st ⟨k1, nx1, hk1, rfl, hL1, rfl⟩
        by_cases hlt1 : k1 < g.debts.length
        · skip
          have hI1 : (k1 : Int) < (g.debts.length : Int) := by omega
          have hat1 := flat_at cDebt_len g.debts k1 hlt1
          try rw [Nat.mul_one] at hat1
          rw [List.drop_eq_getElem_cons hlt1] at hL1
          generalize g.debts[k1] = d at *
          simp only [fewDs] at hL1
          repeat' (first | refine awp_seq ?_ | refine awp_block ?_)
          refine awp_region [] (gs := [none]) (by rfl) (by kernel_rfl) (by decide) ?_
          simp only [(id F_gFew), (id SS), seval, reduceIte, ne_eq, cGrp, h1, h2, hC0, hI1, hat1]
          repeat (refine ⟨by first | omega | (simp only [List.length_cons]; omega), ?_⟩)
          repeat' (first | refine awp_seq ?_ | refine awp_block ?_)
          refine awp_cond true (by rfl) (fun _ => ?_) (fun h => by cases h)
          refine awp_skip ?_
          simp only [(id F_gFew), (id SS), seval, reduceIte, ne_eq]
          repeat' (first | refine awp_seq ?_ | refine awp_block ?_)
          refine awp_region [] (gs := [none, none, none, none]) (by rfl) (by kernel_rfl) (by decide) ?_
          simp only [(id F_gFew), (id SS), seval, reduceIte, ne_eq, cGrp, h1, h2, hC0, hI1, hat1, cDebt]
          repeat (refine ⟨by first | omega | (simp only [List.length_cons]; omega), ?_⟩)
          by_cases h4 : (12 : Int) < (d.legs.length : Int)
          · skip
            repeat' (first | refine awp_seq ?_ | refine awp_block ?_)
            refine awp_region [] (gs := [none, none, none, none, none, some (39, false), some (39, false), some (39, false), some (39, false), none]) (by rfl) (by kernel_rfl) (by decide) ?_
            simp only [(id F_gFew), (id SS), seval, reduceIte, ne_eq, cGrp, h1, h2, hC0, hI1, hat1, h4, cDebt]
            repeat (refine ⟨by first | omega | (simp only [List.length_cons]; omega), ?_⟩)
            repeat' (first | refine awp_seq ?_ | refine awp_block ?_)
            refine awp_cond true (by rfl) (fun _ => ?_) (fun h => by cases h)
            repeat' (first | refine awp_seq ?_ | refine awp_block ?_)
            refine awp_region [] (gs := [none]) (by rfl) (by kernel_rfl) (by decide) ?_
            simp only [(id F_gFew), (id SS), seval, reduceIte, ne_eq, cGrp, h1, h2, hC0, hI1, hat1, h4]
            repeat (refine ⟨by first | omega | (simp only [List.length_cons]; omega), ?_⟩)
            repeat' (first | refine awp_seq ?_ | refine awp_block ?_)
            refine awp_ret ?_
            (first | (simp only [(id F_gFew), (id SS), seval, reduceIte, ne_eq, cGrp, fewG, h1, h2, hC0, hI1, hat1, h4, ← hL1]; done) | (simp only [(id F_gFew), (id SS), seval, reduceIte, ne_eq, cGrp]; first | (simp [fewG, h1, h2, hC0, hI1, hat1, h4, ← hL1]; done) | (simp [fewG, h1, h2, hC0, hI1, hat1, h4]; done) | (rw [← hL1]; simp [fewG, h1, h2, hC0, hI1, hat1, h4]; done)))
          · skip
            by_cases h5 : fewR d.whole = true
            · skip
              repeat' (first | refine awp_seq ?_ | refine awp_block ?_)
              refine awp_region [] (gs := [none, none, none, none, none, some (39, false), some (39, false), some (39, false), some (39, false), none]) (by rfl) (by kernel_rfl) (by decide) ?_
              simp only [(id F_gFew), (id SS), seval, reduceIte, ne_eq, cGrp, h1, h2, hC0, hI1, hat1, h4, h5, cDebt]
              repeat (refine ⟨by first | omega | (simp only [List.length_cons]; omega), ?_⟩)
              refine ⟨_, fewR_A d.whole, rfl, ?_⟩
              simp only [Later, (id F_gFew), (id SS), seval, reduceIte, ne_eq, cGrp, h1, h2, hC0, hI1, hat1, h4, h5, cDebt]
              repeat (refine ⟨by first | omega | (simp only [List.length_cons]; omega), ?_⟩)
              repeat' (first | refine awp_seq ?_ | refine awp_block ?_)
              refine awp_cond false (by rfl) (fun h => by cases h) (fun _ => ?_)
              refine awp_skip ?_
              simp only [(id F_gFew), (id SS), seval, reduceIte, ne_eq]
              repeat' (first | refine awp_seq ?_ | refine awp_block ?_)
              refine awp_region [] (gs := [none, none]) (by rfl) (by kernel_rfl) (by decide) ?_
              simp only [(id F_gFew), (id SS), seval, reduceIte, ne_eq, cGrp, h1, h2, hC0, hI1, hat1, h4, h5]
              repeat (refine ⟨by first | omega | (simp only [List.length_cons]; omega), ?_⟩)
              repeat (refine ⟨by first | omega | (simp only [List.length_cons]; omega), ?_⟩)
              refine ⟨_, wk_keep [1, 29, 30, 31] [1], g.debts.length - (k1 + 1), by omega, k1 + 1, ?a27_nx, by omega, rfl, ?i27_0, ?st27⟩
              case st27 => (simp only [(id F_gFew), (id SS), seval, reduceIte, ne_eq, cGrp]; first | rfl | (simp [Nat.add_mul]; done))
              case i27_0 => (first | exact hL1 | (rw [← hL1]; simp only [reduceIte, h1, h2, hC0, hI1, hat1, h4, h5]; done) | (rw [← hL1]; simp [h1, h2, hC0, hI1, hat1, h4, h5]; done) | (simp [h1, h2, hC0, hI1, hat1, h4, h5] at hL1; simpa using hL1) | (rw [← hL1]; simp [*]; done))
            · skip
              repeat' (first | refine awp_seq ?_ | refine awp_block ?_)
              refine awp_region [] (gs := [none, none, none, none, none, some (39, false), some (39, false), some (39, false), some (39, false), none]) (by rfl) (by kernel_rfl) (by decide) ?_
              simp only [(id F_gFew), (id SS), seval, reduceIte, ne_eq, cGrp, h1, h2, hC0, hI1, hat1, h4, h5, cDebt]
              repeat (refine ⟨by first | omega | (simp only [List.length_cons]; omega), ?_⟩)
              refine ⟨_, fewR_A d.whole, rfl, ?_⟩
              simp only [Later, (id F_gFew), (id SS), seval, reduceIte, ne_eq, cGrp, h1, h2, hC0, hI1, hat1, h4, h5, cDebt]
              repeat (refine ⟨by first | omega | (simp only [List.length_cons]; omega), ?_⟩)
              repeat' (first | refine awp_seq ?_ | refine awp_block ?_)
              refine awp_cond true (by rfl) (fun _ => ?_) (fun h => by cases h)
              repeat' (first | refine awp_seq ?_ | refine awp_block ?_)
              refine awp_region [] (gs := [none]) (by rfl) (by kernel_rfl) (by decide) ?_
              simp only [(id F_gFew), (id SS), seval, reduceIte, ne_eq, cGrp, h1, h2, hC0, hI1, hat1, h4, h5]
              repeat (refine ⟨by first | omega | (simp only [List.length_cons]; omega), ?_⟩)
              repeat' (first | refine awp_seq ?_ | refine awp_block ?_)
              refine awp_ret ?_
              (first | (simp only [(id F_gFew), (id SS), seval, reduceIte, ne_eq, cGrp, fewG, h1, h2, hC0, hI1, hat1, h4, h5, ← hL1]; done) | (simp only [(id F_gFew), (id SS), seval, reduceIte, ne_eq, cGrp]; first | (simp [fewG, h1, h2, hC0, hI1, hat1, h4, h5, ← hL1]; done) | (simp [fewG, h1, h2, hC0, hI1, hat1, h4, h5]; done) | (rw [← hL1]; simp [fewG, h1, h2, hC0, hI1, hat1, h4, h5]; done)))
        · skip
          obtain rfl : k1 = g.debts.length := by omega
          have hI1 : ¬ (g.debts.length : Int) < (g.debts.length : Int) := by omega
          rw [List.drop_length] at hL1
          simp only [fewDs] at hL1
          repeat' (first | refine awp_seq ?_ | refine awp_block ?_)
          refine awp_region [] (gs := [none]) (by rfl) (by kernel_rfl) (by decide) ?_
          simp only [(id F_gFew), (id SS), seval, reduceIte, ne_eq, cGrp, h1, h2, hC0, hI1]
          repeat (refine ⟨by first | omega | (simp only [List.length_cons]; omega), ?_⟩)
          repeat' (first | refine awp_seq ?_ | refine awp_block ?_)
          refine awp_cond false (by rfl) (fun h => by cases h) (fun _ => ?_)
          refine awp_exit ?_
          simp only [(id F_gFew), (id SS), seval, reduceIte, ne_eq]
          repeat' (first | refine awp_seq ?_ | refine awp_block ?_)
          refine awp_region [] (gs := [none]) (by rfl) (by kernel_rfl) (by decide) ?_
          simp only [(id F_gFew), (id SS), seval, reduceIte, ne_eq, cGrp, h1, h2, hC0, hI1]
          repeat (refine ⟨by first | omega | (simp only [List.length_cons]; omega), ?_⟩)
          repeat' (first | refine awp_seq ?_ | refine awp_block ?_)
          refine awp_ret ?_
          (first | (simp only [(id F_gFew), (id SS), seval, reduceIte, ne_eq, cGrp, fewG, h1, h2, hC0, hI1, ← hL1]; done) | (simp only [(id F_gFew), (id SS), seval, reduceIte, ne_eq, cGrp]; first | (simp [fewG, h1, h2, hC0, hI1, ← hL1]; done) | (simp [fewG, h1, h2, hC0, hI1]; done) | (rw [← hL1]; simp [fewG, h1, h2, hC0, hI1]; done)))


theorem fewR_ok {r : GRat} (h : fewR r = true) : ratOK r := by
  simp only [fewR, Bool.and_eq_true, decide_eq_true_eq] at h
  unfold ratOK; omega
theorem fewCl_ok : ∀ {l : List GClaim}, fewCl l = true → ∀ c ∈ l, ratOK c.amount
  | [], _, c, hc => by cases hc
  | a :: l, h, c, hc => by
    simp only [fewCl] at h
    split at h
    · rcases List.mem_cons.1 hc with rfl | hc
      · exact fewR_ok ‹_›
      · exact fewCl_ok h c hc
    · cases h
theorem fewPt_ok : ∀ {l : List GPart}, fewPt l = true → ∀ c ∈ l, ratOK c.cap
  | [], _, c, hc => by cases hc
  | a :: l, h, c, hc => by
    simp only [fewPt] at h
    split at h
    · rcases List.mem_cons.1 hc with rfl | hc
      · exact fewR_ok ‹_›
      · exact fewPt_ok h c hc
    · cases h
theorem fewTr_ok : ∀ {l : List (List GPart)}, fewTr l = true → ∀ t ∈ l, t.length ≤ 30 ∧ ∀ p ∈ t, ratOK p.cap
  | [], _, c, hc => by cases hc
  | a :: l, h, c, hc => by
    simp only [fewTr] at h
    split at h
    · cases h
    · split at h
      · rcases List.mem_cons.1 hc with rfl | hc
        · exact ⟨by omega, fewPt_ok ‹_›⟩
        · exact fewTr_ok h c hc
      · cases h
theorem fewAg_ok : ∀ {l : List GAgr}, fewAg l = true → ∀ a ∈ l, a.length ≤ 30 ∧ ∀ t ∈ a, t.length ≤ 30 ∧ ∀ p ∈ t, ratOK p.cap
  | [], _, c, hc => by cases hc
  | a :: l, h, c, hc => by
    simp only [fewAg] at h
    split at h
    · cases h
    · split at h
      · rcases List.mem_cons.1 hc with rfl | hc
        · exact ⟨by omega, fewTr_ok ‹_›⟩
        · exact fewAg_ok h c hc
      · cases h
theorem fewE_ok {e : GEst} (h : fewE e = true) : estOK2 e := by
  simp only [fewE] at h
  split at h
  · cases h
  · split at h
    · cases h
    · split at h
      · split at h
        · have h1 := fewAg_ok h
          refine ⟨⟨fewR_ok ‹_›, fewCl_ok ‹_›, by omega, fun a ha => ⟨fun t ht => ?_, fun p hp => ?_⟩⟩, fun a ha => ?_⟩
          · have := ((h1 a ha).2 t ht).1; omega
          · obtain ⟨t, ht, hp⟩ := List.mem_flatten.1 hp
            exact ((h1 a ha).2 t ht).2 p hp
          · have := (h1 a ha).1; omega
        · cases h
      · cases h
theorem fewEs_ok : ∀ {l : List GEst}, fewEs l = true → ∀ e ∈ l, estOK2 e
  | [], _, c, hc => by cases hc
  | a :: l, h, c, hc => by
    simp only [fewEs] at h
    split at h
    · rcases List.mem_cons.1 hc with rfl | hc
      · exact fewE_ok ‹_›
      · exact fewEs_ok h c hc
    · cases h
theorem fewDs_ok : ∀ {l : List GDebt}, fewDs l = true → ∀ d ∈ l, ratOK d.whole ∧ d.legs.length ≤ 12
  | [], _, c, hc => by cases hc
  | a :: l, h, c, hc => by
    simp only [fewDs] at h
    split at h
    · cases h
    · split at h
      · rcases List.mem_cons.1 hc with rfl | hc
        · exact ⟨fewR_ok ‹_›, by omega⟩
        · exact fewDs_ok h c hc
      · cases h
theorem fewG_ok {g : GGrp} (h : fewG g = true) : grpOK2 g ∧ g.debts.length ≤ 5 ∧ ∀ d ∈ g.debts, d.legs.length ≤ 12 := by
  simp only [fewG] at h
  split at h
  · cases h
  · split at h
    · cases h
    · split at h
      · have h1 := fewDs_ok h
        refine ⟨⟨fewEs_ok ‹_›, fun d hd => (h1 d hd).1, fun d hd => ?_⟩, by omega, fun d hd => (h1 d hd).2⟩
        have := (h1 d hd).2; omega
      · cases h
theorem grpOK2_ok {g : GGrp} (h : grpOK2 g) : grpOK g := ⟨fun e he => (h.1 e he).1, h.2.1⟩

end Go.Proofs.YtogeijhepjcbgaaGreatDoor
