/- The reference: CheckEstate; walked by the abstract machine. -/
import Derived.Test.YtogeijhepjcbgaaGreatDoorRw2M
set_option linter.unusedVariables false
set_option linter.unusedSimpArgs false
set_option linter.defProp false
set_option linter.unnecessarySimpa false
section
/- The reference: CheckEstate; walked by the abstract machine. -/
namespace Go.Proofs.YtogeijhepjcbgaaGreatDoor
open Go Go.RowKit
noncomputable def ceAgrs (g : GEst) (i : Nat) : List GAgr → Int
  | [] => 0
  | a :: l => if agS g.claims.length (fun c => mbE c (g.agrs.take i)) a ≠ 0 then agS g.claims.length (fun c => mbE c (g.agrs.take i)) a else ceAgrs g (i + 1) l
noncomputable def ceSpec (e : GEst) : Int := if 24 < e.claims.length ∨ 12 < e.agrs.length then 2 else if qSgn (qOf e.cash) < 0 then 7 else if wcClaims e.claims ≠ 0 then wcClaims e.claims
  else ceAgrs e 0 e.agrs
def estOK2 (e : GEst) : Prop := estOK e ∧ ∀ a ∈ e.agrs, a.length ≤ 1000000000000
theorem rEst_ar64 : arT Tryz.prog 64 = none := by kernel_rfl
theorem rEst_el65 : elT Tryz.prog 65 = some (85, 1, 24) := by kernel_rfl
theorem rEst_el64 : elT Tryz.prog 64 = some (69, 5, 56) := by kernel_rfl
theorem rEst_fo69_0 : foT Tryz.prog 69 0 = some (0, 3) := by kernel_rfl
theorem rEst_fo69_1 : foT Tryz.prog 69 1 = some (1, 3) := by kernel_rfl
theorem rEst_fo69_2 : foT Tryz.prog 69 2 = some (2, 44) := by kernel_rfl
theorem rEst_fo67_0 : foT Tryz.prog 67 0 = some (0, 44) := by kernel_rfl
theorem rEst_fo67_1 : foT Tryz.prog 67 1 = some (3, 64) := by kernel_rfl
theorem rEst_fo67_2 : foT Tryz.prog 67 2 = some (4, 65) := by kernel_rfl
theorem rEst_ld65 : ldT Tryz.prog 65 = some (false, 1) := by kernel_rfl
theorem rEst_ld64 : ldT Tryz.prog 64 = some (false, 1) := by kernel_rfl
theorem rEst_ld69 : ldT Tryz.prog 69 = some (true, 5) := by kernel_rfl
theorem rEst_ld67 : ldT Tryz.prog 67 = some (true, 5) := by kernel_rfl
theorem rEst_ld44 : ldT Tryz.prog 44 = some (true, 3) := by kernel_rfl
theorem rEst_ld3 : ldT Tryz.prog 3 = some (false, 1) := by kernel_rfl
theorem rEst_zr69 : zrT Tryz.prog 69 = some [.int .i64 0, .int .i64 0, .bool false, .string bEmpty, .string bEmpty] := by kernel_rfl
def F_rEst := And.intro rEst_ar64 (And.intro rEst_el65 (And.intro rEst_el64 (And.intro rEst_fo69_0 (And.intro rEst_fo69_1 (And.intro rEst_fo69_2 (And.intro rEst_fo67_0 (And.intro rEst_fo67_1 (And.intro rEst_fo67_2 (And.intro rEst_ld65 (And.intro rEst_ld64 (And.intro rEst_ld69 (And.intro rEst_ld67 (And.intro rEst_ld44 (And.intro rEst_ld3 (rEst_zr69)))))))))))))))
set_option maxHeartbeats 8000000 in
theorem rEstate_A (g : GEst) (hg : estOK2 g) : ACall Tryz.prog 64 [.agg (cEst g)] (one (.int .i64 (ceSpec g))) := by
  obtain ⟨⟨⟨hq1, hq2⟩, hcl, hcn, hag⟩, hal⟩ := hg
  have hS0 := bSign g.cash hq1 hq2
  unfold ceSpec
  refine acall_of Tryz.func64 rfl (by decide) (N := 69) rfl (by simp) (R := [.tmp 2]) rfl fun en k0 => ?_
  repeat' first|refine awS ?_|refine awB ?_
  refine awR [] [none, none] ?_
  simp only [(id F_rEst), (id SS), seval, reduceIte, ne_eq, cEst]
  by_cases h24 : 24 < g.claims.length
  · have hI : (24 : Int) < (g.claims.length : Int) := by omega
    repeat' first|refine awS ?_|refine awB ?_
    refine awR [] [none, none, none, none, none, some (11, false), some (11, false), some (11, false), some (11, false), none] ?_
    simp only [(id F_rEst), (id SS), seval, reduceIte, ne_eq, hI, cEst]
    repeat' first|refine awS ?_|refine awB ?_
    refine awT ?_
    repeat' first|refine awS ?_|refine awB ?_
    refine awR [] [none] ?_
    simp only [(id F_rEst), (id SS), seval, reduceIte, ne_eq]
    repeat' first|refine awS ?_|refine awB ?_
    refine awp_ret ?_
    simp only [(id F_rEst), (id SS), seval, reduceIte, ne_eq, h24]
  have hI24 : ¬ (24 : Int) < (g.claims.length : Int) := by omega
  by_cases h12 : 12 < g.agrs.length
  · have hI : (12 : Int) < (g.agrs.length : Int) := by omega
    repeat' first|refine awS ?_|refine awB ?_
    refine awR [] [none, none, none, none, none, some (11, false), some (11, false), some (11, false), some (11, false), none] ?_
    simp only [(id F_rEst), (id SS), seval, reduceIte, ne_eq, hI24, hI, cEst]
    repeat' first|refine awS ?_|refine awB ?_
    refine awT ?_
    repeat' first|refine awS ?_|refine awB ?_
    refine awR [] [none] ?_
    simp only [(id F_rEst), (id SS), seval, reduceIte, ne_eq]
    repeat' first|refine awS ?_|refine awB ?_
    refine awp_ret ?_
    simp only [(id F_rEst), (id SS), seval, reduceIte, ne_eq, h12]
  have hI12 : ¬ (12 : Int) < (g.agrs.length : Int) := by omega
  by_cases hq : qSgn (qOf g.cash) < 0
  · repeat' first|refine awS ?_|refine awB ?_
    refine awR [] [none, none, none, none, none, some (11, false), some (11, false), some (11, false), some (11, false), none] ?_
    simp only [(id F_rEst), (id SS), seval, reduceIte, ne_eq, hI24, hI12, cEst]
    repeat' first|refine awS ?_|refine awB ?_
    refine awF ?_
    refine awp_skip ?_
    simp only [(id F_rEst), (id SS), seval, reduceIte, ne_eq]
    repeat' first|refine awS ?_|refine awB ?_
    refine awR [] [none, none, none, none] ?_
    simp only [(id F_rEst), (id SS), seval, reduceIte, ne_eq, cEst]
    refine ⟨_, hS0, rfl, ?_⟩
    simp only [Later, (id F_rEst), (id SS), seval, reduceIte, ne_eq, hq]
    repeat' first|refine awS ?_|refine awB ?_
    refine awT ?_
    repeat' first|refine awS ?_|refine awB ?_
    refine awR [] [none] ?_
    simp only [(id F_rEst), (id SS), seval, reduceIte, ne_eq]
    repeat' first|refine awS ?_|refine awB ?_
    refine awp_ret ?_
    simp only [(id F_rEst), (id SS), seval, reduceIte, ne_eq, h24, h12, hq, or_self]
  repeat' first|refine awS ?_|refine awB ?_
  refine awR [] [none, none, none, none, none, some (11, false), some (11, false), some (11, false), some (11, false), none] ?_
  simp only [(id F_rEst), (id SS), seval, reduceIte, ne_eq, hI24, hI12, cEst]
  repeat' first|refine awS ?_|refine awB ?_
  refine awF ?_
  refine awp_skip ?_
  simp only [(id F_rEst), (id SS), seval, reduceIte, ne_eq]
  repeat' first|refine awS ?_|refine awB ?_
  refine awR [] [none, none, none, none] ?_
  simp only [(id F_rEst), (id SS), seval, reduceIte, ne_eq, cEst]
  refine ⟨_, hS0, rfl, ?_⟩
  simp only [Later, (id F_rEst), (id SS), seval, reduceIte, ne_eq, hq]
  repeat' first|refine awS ?_|refine awB ?_
  refine awF ?_
  refine awp_skip ?_
  simp only [(id F_rEst), (id SS), seval, reduceIte, ne_eq]
  repeat' first|refine awS ?_|refine awB ?_
  refine awR [] [none] ?_
  simp only [(id F_rEst), (id SS), seval, reduceIte, ne_eq]
  refine awp_keep [1, 3] [1] ?_
  simp only [Later, (id F_rEst), (id SS), seval, reduceIte, ne_eq]
  refine awp_cutA (M := fun st => wcClaims g.claims = 0 ∧ ∃ nx, st = ⟨mkT [(1, .val (.one (.ptr 1 0 0)))], mkH [(1, ⟨0, 67, 5, 1, cEst g⟩)], nx, 0⟩) ?_ ?_
  · repeat' first|refine awS ?_|refine awB ?_
    refine awp_loopw (fun n st => ∃ k nx, k ≤ g.claims.length ∧ n = g.claims.length - k ∧ wcClaims (g.claims.drop k) = wcClaims g.claims ∧ st = ⟨mkT [(1, .val (.one (.ptr 1 0 0))), (3, one (.int .i64 k))], mkH [(1, ⟨0, 67, 5, 1, cEst g⟩)], nx, 0⟩) g.claims.length ⟨0, _, by omega, by omega, rfl, rfl⟩ ?_
    rintro n st ⟨k, nx, hk, rfl, hL, rfl⟩
    by_cases hlt : k < g.claims.length
    · have hI : (k : Int) < (g.claims.length : Int) := by omega
      have hat := flat_at cClaim_len g.claims k hlt
      rw [List.drop_eq_getElem_cons hlt] at hL
      have hS := bSign g.claims[k].amount (hcl _ (List.getElem_mem hlt)).1 (hcl _ (List.getElem_mem hlt)).2
      generalize g.claims[k] = c at *
      simp only [wcClaims] at hL
      by_cases p1 : c.holder < -1
      · repeat' first|refine awS ?_|refine awB ?_
        refine awR [] [none, none, none, none, none] ?_
        simp only [(id F_rEst), (id SS), seval, reduceIte, ne_eq, hI, cEst]
        repeat' first|refine awS ?_|refine awB ?_
        refine awT ?_
        refine awp_skip ?_
        simp only [(id F_rEst), (id SS), seval, reduceIte, ne_eq]
        repeat' first|refine awS ?_|refine awB ?_
        refine awR [] [none, none, none, none, none, none, none] ?_
        simp only [(id F_rEst), (id SS), seval, reduceIte, ne_eq, hat, cEst, cClaim]
        repeat (refine ⟨by first | omega | (simp only [List.length_cons]; omega), ?_⟩)
        repeat' first|refine awS ?_|refine awB ?_
        refine awR [] [none, none, none, none, some (37, false), some (37, false), some (37, false), none, none] ?_
        simp only [(id F_rEst), (id SS), seval, reduceIte, ne_eq, p1]
        repeat' first|refine awS ?_|refine awB ?_
        refine awT ?_
        repeat' first|refine awS ?_|refine awB ?_
        refine awR [] [none] ?_
        simp only [(id F_rEst), (id SS), seval, reduceIte, ne_eq]
        have hR : wcClaims g.claims = 19 := by rw [← hL]; simp [p1]
        repeat' first|refine awS ?_|refine awB ?_
        refine awp_ret ?_
        simp only [(id F_rEst), (id SS), seval, reduceIte, ne_eq, h24, h12, hq, if_false, or_self, hR, Int.reduceEq]
      · by_cases p2 : 8 ≤ c.holder
        · repeat' first|refine awS ?_|refine awB ?_
          refine awR [] [none, none, none, none, none] ?_
          simp only [(id F_rEst), (id SS), seval, reduceIte, ne_eq, hI, cEst]
          repeat' first|refine awS ?_|refine awB ?_
          refine awT ?_
          refine awp_skip ?_
          simp only [(id F_rEst), (id SS), seval, reduceIte, ne_eq]
          repeat' first|refine awS ?_|refine awB ?_
          refine awR [] [none, none, none, none, none, none, none] ?_
          simp only [(id F_rEst), (id SS), seval, reduceIte, ne_eq, hat, cEst, cClaim]
          repeat (refine ⟨by first | omega | (simp only [List.length_cons]; omega), ?_⟩)
          repeat' first|refine awS ?_|refine awB ?_
          refine awR [] [none, none, none, none, some (37, false), some (37, false), some (37, false), none, none] ?_
          simp only [(id F_rEst), (id SS), seval, reduceIte, ne_eq, p1, p2]
          repeat' first|refine awS ?_|refine awB ?_
          refine awT ?_
          repeat' first|refine awS ?_|refine awB ?_
          refine awR [] [none] ?_
          simp only [(id F_rEst), (id SS), seval, reduceIte, ne_eq]
          have hR : wcClaims g.claims = 19 := by rw [← hL]; simp [p2]
          repeat' first|refine awS ?_|refine awB ?_
          refine awp_ret ?_
          simp only [(id F_rEst), (id SS), seval, reduceIte, ne_eq, h24, h12, hq, if_false, or_self, hR, Int.reduceEq]
        · by_cases p3 : c.rank < 0
          · repeat' first|refine awS ?_|refine awB ?_
            refine awR [] [none, none, none, none, none] ?_
            simp only [(id F_rEst), (id SS), seval, reduceIte, ne_eq, hI, cEst]
            repeat' first|refine awS ?_|refine awB ?_
            refine awT ?_
            refine awp_skip ?_
            simp only [(id F_rEst), (id SS), seval, reduceIte, ne_eq]
            repeat' first|refine awS ?_|refine awB ?_
            refine awR [] [none, none, none, none, none, none, none] ?_
            simp only [(id F_rEst), (id SS), seval, reduceIte, ne_eq, hat, cEst, cClaim]
            repeat (refine ⟨by first | omega | (simp only [List.length_cons]; omega), ?_⟩)
            repeat' first|refine awS ?_|refine awB ?_
            refine awR [] [none, none, none, none, some (37, false), some (37, false), some (37, false), none, none] ?_
            simp only [(id F_rEst), (id SS), seval, reduceIte, ne_eq, p1, p2]
            repeat' first|refine awS ?_|refine awB ?_
            refine awF ?_
            repeat' first|refine awS ?_|refine awB ?_
            refine awR [] [none, none, none, none, some (46, false), some (46, false), some (46, false), none, none] ?_
            simp only [(id F_rEst), (id SS), seval, reduceIte, ne_eq, p3]
            repeat' first|refine awS ?_|refine awB ?_
            refine awT ?_
            repeat' first|refine awS ?_|refine awB ?_
            refine awR [] [none] ?_
            simp only [(id F_rEst), (id SS), seval, reduceIte, ne_eq]
            have hR : wcClaims g.claims = 1 := by rw [← hL]; simp [p1, p2, p3]
            repeat' first|refine awS ?_|refine awB ?_
            refine awp_ret ?_
            simp only [(id F_rEst), (id SS), seval, reduceIte, ne_eq, h24, h12, hq, if_false, or_self, hR, Int.reduceEq]
          · by_cases p4 : 7 < c.rank
            · repeat' first|refine awS ?_|refine awB ?_
              refine awR [] [none, none, none, none, none] ?_
              simp only [(id F_rEst), (id SS), seval, reduceIte, ne_eq, hI, cEst]
              repeat' first|refine awS ?_|refine awB ?_
              refine awT ?_
              refine awp_skip ?_
              simp only [(id F_rEst), (id SS), seval, reduceIte, ne_eq]
              repeat' first|refine awS ?_|refine awB ?_
              refine awR [] [none, none, none, none, none, none, none] ?_
              simp only [(id F_rEst), (id SS), seval, reduceIte, ne_eq, hat, cEst, cClaim]
              repeat (refine ⟨by first | omega | (simp only [List.length_cons]; omega), ?_⟩)
              repeat' first|refine awS ?_|refine awB ?_
              refine awR [] [none, none, none, none, some (37, false), some (37, false), some (37, false), none, none] ?_
              simp only [(id F_rEst), (id SS), seval, reduceIte, ne_eq, p1, p2]
              repeat' first|refine awS ?_|refine awB ?_
              refine awF ?_
              repeat' first|refine awS ?_|refine awB ?_
              refine awR [] [none, none, none, none, some (46, false), some (46, false), some (46, false), none, none] ?_
              simp only [(id F_rEst), (id SS), seval, reduceIte, ne_eq, p3, p4]
              repeat' first|refine awS ?_|refine awB ?_
              refine awT ?_
              repeat' first|refine awS ?_|refine awB ?_
              refine awR [] [none] ?_
              simp only [(id F_rEst), (id SS), seval, reduceIte, ne_eq]
              have hR : wcClaims g.claims = 1 := by rw [← hL]; simp [p1, p2, p4]
              repeat' first|refine awS ?_|refine awB ?_
              refine awp_ret ?_
              simp only [(id F_rEst), (id SS), seval, reduceIte, ne_eq, h24, h12, hq, if_false, or_self, hR, Int.reduceEq]
            · by_cases hsg : qSgn (qOf c.amount) < 0
              · repeat' first|refine awS ?_|refine awB ?_
                refine awR [] [none, none, none, none, none] ?_
                simp only [(id F_rEst), (id SS), seval, reduceIte, ne_eq, hI, cEst]
                repeat' first|refine awS ?_|refine awB ?_
                refine awT ?_
                refine awp_skip ?_
                simp only [(id F_rEst), (id SS), seval, reduceIte, ne_eq]
                repeat' first|refine awS ?_|refine awB ?_
                refine awR [] [none, none, none, none, none, none, none] ?_
                simp only [(id F_rEst), (id SS), seval, reduceIte, ne_eq, hat, cEst, cClaim]
                repeat (refine ⟨by first | omega | (simp only [List.length_cons]; omega), ?_⟩)
                repeat' first|refine awS ?_|refine awB ?_
                refine awR [] [none, none, none, none, some (37, false), some (37, false), some (37, false), none, none] ?_
                simp only [(id F_rEst), (id SS), seval, reduceIte, ne_eq, p1, p2]
                repeat' first|refine awS ?_|refine awB ?_
                refine awF ?_
                repeat' first|refine awS ?_|refine awB ?_
                refine awR [] [none, none, none, none, some (46, false), some (46, false), some (46, false), none, none] ?_
                simp only [(id F_rEst), (id SS), seval, reduceIte, ne_eq, p3, p4]
                repeat' first|refine awS ?_|refine awB ?_
                refine awF ?_
                repeat' first|refine awS ?_|refine awB ?_
                refine awR [] [none, none, none, none, none] ?_
                simp only [(id F_rEst), (id SS), seval, reduceIte, ne_eq]
                refine ⟨_, hS, rfl, ?_⟩
                simp only [Later, (id F_rEst), (id SS), seval, reduceIte, ne_eq, hsg]
                repeat' first|refine awS ?_|refine awB ?_
                refine awT ?_
                repeat' first|refine awS ?_|refine awB ?_
                refine awR [] [none] ?_
                simp only [(id F_rEst), (id SS), seval, reduceIte, ne_eq]
                have hR : wcClaims g.claims = 7 := by rw [← hL]; simp [p1, p2, p3, p4, hsg]
                repeat' first|refine awS ?_|refine awB ?_
                refine awp_ret ?_
                simp only [(id F_rEst), (id SS), seval, reduceIte, ne_eq, h24, h12, hq, if_false, or_self, hR, Int.reduceEq]
              · repeat' first|refine awS ?_|refine awB ?_
                refine awR [] [none, none, none, none, none] ?_
                simp only [(id F_rEst), (id SS), seval, reduceIte, ne_eq, hI, cEst]
                repeat' first|refine awS ?_|refine awB ?_
                refine awT ?_
                refine awp_skip ?_
                simp only [(id F_rEst), (id SS), seval, reduceIte, ne_eq]
                repeat' first|refine awS ?_|refine awB ?_
                refine awR [] [none, none, none, none, none, none, none] ?_
                simp only [(id F_rEst), (id SS), seval, reduceIte, ne_eq, hat, cEst, cClaim]
                repeat (refine ⟨by first | omega | (simp only [List.length_cons]; omega), ?_⟩)
                repeat' first|refine awS ?_|refine awB ?_
                refine awR [] [none, none, none, none, some (37, false), some (37, false), some (37, false), none, none] ?_
                simp only [(id F_rEst), (id SS), seval, reduceIte, ne_eq, p1, p2]
                repeat' first|refine awS ?_|refine awB ?_
                refine awF ?_
                repeat' first|refine awS ?_|refine awB ?_
                refine awR [] [none, none, none, none, some (46, false), some (46, false), some (46, false), none, none] ?_
                simp only [(id F_rEst), (id SS), seval, reduceIte, ne_eq, p3, p4]
                repeat' first|refine awS ?_|refine awB ?_
                refine awF ?_
                repeat' first|refine awS ?_|refine awB ?_
                refine awR [] [none, none, none, none, none] ?_
                simp only [(id F_rEst), (id SS), seval, reduceIte, ne_eq]
                refine ⟨_, hS, rfl, ?_⟩
                simp only [Later, (id F_rEst), (id SS), seval, reduceIte, ne_eq, hsg]
                repeat' first|refine awS ?_|refine awB ?_
                refine awF ?_
                refine awp_skip ?_
                simp only [(id F_rEst), (id SS), seval, reduceIte, ne_eq]
                repeat' first|refine awS ?_|refine awB ?_
                refine awR [] [none, none, none] ?_
                simp only [(id F_rEst), (id SS), seval, reduceIte, ne_eq]
                repeat (refine ⟨by first | omega | (simp only [List.length_cons]; omega), ?_⟩)
                refine ⟨_, wk_keep [1, 3] [1], g.claims.length - (k + 1), by omega, k + 1, nx + 1, by omega, rfl, ?_, ?_⟩
                · rw [← hL]; simp [p1, p2, p3, p4, hsg]
                · simp only [(id F_rEst), (id SS), seval, reduceIte, ne_eq]
                  try rfl
    · obtain rfl : k = g.claims.length := by omega
      have hI : ¬ (g.claims.length : Int) < (g.claims.length : Int) := by omega
      rw [List.drop_length] at hL
      simp only [wcClaims] at hL
      repeat' first|refine awS ?_|refine awB ?_
      refine awR [] [none, none, none, none, none] ?_
      simp only [(id F_rEst), (id SS), seval, reduceIte, ne_eq, hI, cEst]
      repeat' first|refine awS ?_|refine awB ?_
      refine awF ?_
      refine awp_exit ?_
      simp only [(id F_rEst), (id SS), seval, reduceIte, ne_eq]
      refine ⟨_, wk_keep [1] [1], hL.symm, nx, ?_⟩
      simp only [(id F_rEst), (id SS), seval, reduceIte, ne_eq]
  · rintro st ⟨hw0, nx, rfl⟩
    simp only [h24, h12, hq, or_self, if_false, hw0, ne_eq, not_true_eq_false]
    repeat' first|refine awS ?_|refine awB ?_
    refine awR [] [none] ?_
    simp only [(id F_rEst), (id SS), seval, reduceIte, ne_eq]
    refine awp_keep [1, 5] [1] ?_
    simp only [Later, (id F_rEst), (id SS), seval, reduceIte, ne_eq]
    repeat' first|refine awS ?_|refine awB ?_
    refine awp_loopw (fun n st => ∃ k nx, k ≤ g.agrs.length ∧ n = g.agrs.length - k ∧ ceAgrs g k (g.agrs.drop k) = ceAgrs g 0 g.agrs ∧ st = ⟨mkT [(1, .val (.one (.ptr 1 0 0))), (5, one (.int .i64 k))], mkH [(1, ⟨0, 67, 5, 1, cEst g⟩)], nx, 0⟩) g.agrs.length ⟨0, _, by omega, by omega, rfl, rfl⟩ ?_
    rintro n st ⟨k, nx, hk, rfl, hL, rfl⟩
    by_cases hlt : k < g.agrs.length
    · have hI : (k : Int) < (g.agrs.length : Int) := by omega
      rw [List.drop_eq_getElem_cons hlt] at hL
      have hA := agreement_A g k hlt (by omega) (fun a ha => ⟨hal a ha, (hag a ha).1⟩) (hag _ (List.getElem_mem hlt))
      simp only [ceAgrs] at hL
      generalize agS g.claims.length (fun c => mbE c (g.agrs.take k)) g.agrs[k] = r at *
      by_cases he : r = 0
      · rw [if_neg (by simp [he])] at hL
        repeat' first|refine awS ?_|refine awB ?_
        refine awR [] [none, none, none, none, none] ?_
        simp only [(id F_rEst), (id SS), seval, reduceIte, ne_eq, hI, cEst]
        repeat' first|refine awS ?_|refine awB ?_
        refine awT ?_
        refine awp_skip ?_
        simp only [(id F_rEst), (id SS), seval, reduceIte, ne_eq]
        repeat' first|refine awS ?_|refine awB ?_
        refine awR [] [none, none, none, none] ?_
        simp only [(id F_rEst), (id SS), seval, reduceIte, ne_eq, cEst, flat_pure cClaim_pure, flat_pure cAgr_pure]
        refine ⟨_, hA, rfl, ?_⟩
        simp only [Later, (id F_rEst), (id SS), seval, reduceIte, ne_eq, he]
        repeat' first|refine awS ?_|refine awB ?_
        refine awR [] [none, none] ?_
        simp only [(id F_rEst), (id SS), seval, reduceIte, ne_eq]
        repeat' first|refine awS ?_|refine awB ?_
        refine awF ?_
        refine awp_skip ?_
        simp only [(id F_rEst), (id SS), seval, reduceIte, ne_eq]
        repeat' first|refine awS ?_|refine awB ?_
        refine awR [] [none, none, none] ?_
        simp only [(id F_rEst), (id SS), seval, reduceIte, ne_eq]
        repeat (refine ⟨by first | omega | (simp only [List.length_cons]; omega), ?_⟩)
        refine ⟨_, wk_keep [1, 5] [1], g.agrs.length - (k + 1), by omega, k + 1, nx, by omega, rfl, hL, ?_⟩
        simp only [(id F_rEst), (id SS), seval, reduceIte, ne_eq]
        try rfl
      · rw [if_pos he] at hL
        repeat' first|refine awS ?_|refine awB ?_
        refine awR [] [none, none, none, none, none] ?_
        simp only [(id F_rEst), (id SS), seval, reduceIte, ne_eq, hI, cEst]
        repeat' first|refine awS ?_|refine awB ?_
        refine awT ?_
        refine awp_skip ?_
        simp only [(id F_rEst), (id SS), seval, reduceIte, ne_eq]
        repeat' first|refine awS ?_|refine awB ?_
        refine awR [] [none, none, none, none] ?_
        simp only [(id F_rEst), (id SS), seval, reduceIte, ne_eq, cEst, flat_pure cClaim_pure, flat_pure cAgr_pure]
        refine ⟨_, hA, rfl, ?_⟩
        simp only [Later, (id F_rEst), (id SS), seval, reduceIte, ne_eq, he]
        repeat' first|refine awS ?_|refine awB ?_
        refine awR [] [none, none] ?_
        simp only [(id F_rEst), (id SS), seval, reduceIte, ne_eq, he]
        repeat' first|refine awS ?_|refine awB ?_
        refine awT ?_
        repeat' first|refine awS ?_|refine awB ?_
        refine awR [] [none, none] ?_
        simp only [(id F_rEst), (id SS), seval, reduceIte, ne_eq]
        repeat' first|refine awS ?_|refine awB ?_
        refine awp_ret ?_
        simp only [(id F_rEst), (id SS), seval, reduceIte, ne_eq, hL]
    · obtain rfl : k = g.agrs.length := by omega
      have hI : ¬ (g.agrs.length : Int) < (g.agrs.length : Int) := by omega
      rw [List.drop_length] at hL
      simp only [ceAgrs] at hL
      repeat' first|refine awS ?_|refine awB ?_
      refine awR [] [none, none, none, none, none] ?_
      simp only [(id F_rEst), (id SS), seval, reduceIte, ne_eq, hI, cEst]
      repeat' first|refine awS ?_|refine awB ?_
      refine awF ?_
      refine awp_exit ?_
      simp only [(id F_rEst), (id SS), seval, reduceIte, ne_eq]
      repeat' first|refine awS ?_|refine awB ?_
      refine awR [] [none] ?_
      simp only [(id F_rEst), (id SS), seval, reduceIte, ne_eq]
      repeat' first|refine awS ?_|refine awB ?_
      refine awp_ret ?_
      simp only [(id F_rEst), (id SS), seval, reduceIte, ne_eq, ← hL]
end Go.Proofs.YtogeijhepjcbgaaGreatDoor
end
section
/- The reference: claim, leg; walked by the abstract machine. -/
namespace Go.Proofs.YtogeijhepjcbgaaGreatDoor
open Go Go.RowKit
def lgT (l0 : Leg) : List Leg → Nat → Option Nat
  | [], _ => none
  | x :: t, j => if x.1 = l0.1 ∧ x.2 = l0.2 then some j else lgT l0 t (j + 1)
def lgD (l0 : Leg) : List GDebt → Nat → Option (Nat × Nat)
  | [], _ => none
  | d :: ds, i => match lgT l0 d.legs 0 with
    | some j => some (i, j)
    | none => lgD l0 ds (i + 1)
def lgR : Option (Nat × Nat) → AV
  | some x => .tup [.one (.lit (.int .i64 (x.1 : Int))), .one (.lit (.int .i64 (x.2 : Int))), .one (.lit (.bool true))]
  | none => .tup [.one (.lit (.int .i64 0)), .one (.lit (.int .i64 0)), .one (.lit (.bool false))]
theorem rClm_ar64 : arT Tryz.prog 64 = none := by kernel_rfl
theorem rClm_ar27 : arT Tryz.prog 27 = none := by kernel_rfl
theorem rClm_el64 : elT Tryz.prog 64 = some (69, 5, 56) := by kernel_rfl
theorem rClm_el27 : elT Tryz.prog 27 = some (67, 5, 88) := by kernel_rfl
theorem rClm_fo67_1 : foT Tryz.prog 67 1 = some (3, 64) := by kernel_rfl
theorem rClm_fo30_0 : foT Tryz.prog 30 0 = some (0, 27) := by kernel_rfl
theorem rClm_fo39_0 : foT Tryz.prog 39 0 = some (0, 3) := by kernel_rfl
theorem rClm_fo39_1 : foT Tryz.prog 39 1 = some (1, 3) := by kernel_rfl
theorem rClm_ld64 : ldT Tryz.prog 64 = some (false, 1) := by kernel_rfl
theorem rClm_ld27 : ldT Tryz.prog 27 = some (false, 1) := by kernel_rfl
theorem rClm_ld69 : ldT Tryz.prog 69 = some (true, 5) := by kernel_rfl
theorem rClm_ld3 : ldT Tryz.prog 3 = some (false, 1) := by kernel_rfl
theorem rClm_zr69 : zrT Tryz.prog 69 = some [.int .i64 0, .int .i64 0, .bool false, .string bEmpty, .string bEmpty] := by kernel_rfl
def F_rClm := And.intro rClm_ar64 (And.intro rClm_ar27 (And.intro rClm_el64 (And.intro rClm_el27 (And.intro rClm_fo67_1 (And.intro rClm_fo30_0 (And.intro rClm_fo39_0 (And.intro rClm_fo39_1 (And.intro rClm_ld64 (And.intro rClm_ld27 (And.intro rClm_ld69 (And.intro rClm_ld3 (rClm_zr69))))))))))))
theorem claim_A (g : GGrp) (l : Leg) (h : inEsts g.ests l = true) :
    ACall Tryz.prog 90 [.agg (cGrp g), .agg (cLeg l)] (.val (.agg (cClaim (claimAt g.ests l)))) := by
  simp only [inEsts, Bool.and_eq_true, decide_eq_true_eq] at h
  obtain ⟨⟨⟨h1, h2⟩, h3⟩, h4⟩ := h
  have a1 := flat_get cEst_len g.ests l.1 ztEst h1 h2
  have a2 := flat_get cClaim_len (g.ests.getD l.1.toNat ztEst).claims l.2 default h3 h4
  unfold claimAt
  generalize g.ests.getD l.1.toNat ztEst = e at *
  generalize e.claims.getD l.2.toNat default = c at *
  refine acall_of Tryz.func90 rfl (by decide) (N := 16) rfl (by simp) (R := [.cell 4 69]) rfl fun en k0 => ?_
  repeat' first|refine awS ?_|refine awB ?_
  refine awR [] [none, none, none] ?_
  simp only [(id F_rClm), (id SS), seval, reduceIte, ne_eq, cGrp, cLeg]
  repeat' first|refine awS ?_|refine awB ?_
  refine awp_draws (by kernel_rfl) (.cons 0 true (.cons 1 true (.cons 2 true (.cons 3 true (.cons 4 true (.cons 5 true (.cons 6 true (.cons 7 true (.cons 8 true (.cons 9 true (.cons 10 true (.cons 11 false .nil)))))))))))) (by kernel_rfl) (gs := [none, none, none, none, none, none, none, none, none, none, none, none]) (by kernel_rfl) (by simp only [(id SS), seval, reduceIte, ne_eq]; rfl) (by decide) ?_
  simp only [(id F_rClm), (id SS), seval, reduceIte, ne_eq, a1, a2, cEst, cClaim]
  refine ⟨⟨h1, h2⟩, ⟨h3, h4⟩, ?_⟩
  repeat' first|refine awS ?_|refine awB ?_
  refine awp_ret ?_
  simp only [(id F_rClm), (id SS), seval, reduceIte, ne_eq]
theorem rLeg_ar28 : arT Tryz.prog 28 = none := by kernel_rfl
theorem rLeg_ar48 : arT Tryz.prog 48 = none := by kernel_rfl
theorem rLeg_el28 : elT Tryz.prog 28 = some (50, 4, 64) := by kernel_rfl
theorem rLeg_el48 : elT Tryz.prog 48 = some (39, 2, 16) := by kernel_rfl
theorem rLeg_fo50_1 : foT Tryz.prog 50 1 = some (3, 48) := by kernel_rfl
theorem rLeg_fo30_1 : foT Tryz.prog 30 1 = some (1, 28) := by kernel_rfl
theorem rLeg_fo39_0 : foT Tryz.prog 39 0 = some (0, 3) := by kernel_rfl
theorem rLeg_fo39_1 : foT Tryz.prog 39 1 = some (1, 3) := by kernel_rfl
theorem rLeg_ld28 : ldT Tryz.prog 28 = some (false, 1) := by kernel_rfl
theorem rLeg_ld48 : ldT Tryz.prog 48 = some (false, 1) := by kernel_rfl
theorem rLeg_ld3 : ldT Tryz.prog 3 = some (false, 1) := by kernel_rfl
def F_rLeg := And.intro rLeg_ar28 (And.intro rLeg_ar48 (And.intro rLeg_el28 (And.intro rLeg_el48 (And.intro rLeg_fo50_1 (And.intro rLeg_fo30_1 (And.intro rLeg_fo39_0 (And.intro rLeg_fo39_1 (And.intro rLeg_ld28 (And.intro rLeg_ld48 (rLeg_ld3))))))))))
set_option maxHeartbeats 4000000 in
theorem leg_A (g : GGrp) (l0 : Leg) (hn : g.debts.length ≤ 1000000000000) (hl : ∀ d ∈ g.debts, d.legs.length ≤ 1000000000000) :
    ACall Tryz.prog 67 [.agg (cGrp g), .one (.lit (.int .i64 l0.1)), .one (.lit (.int .i64 l0.2))] (lgR (lgD l0 g.debts 0)) := by
  refine acall_of Tryz.func67 rfl (by decide) (N := 57) rfl (by simp) (R := [.tmp 6, .tmp 7, .tmp 8]) rfl fun en k0 => ?_
  repeat' first|refine awS ?_|refine awB ?_
  refine awR [] [none, none, none, none] ?_
  simp only [(id F_rLeg), (id SS), seval, reduceIte, ne_eq, cGrp]
  repeat' first|refine awS ?_|refine awB ?_
  refine awR [] [none] ?_
  simp only [(id F_rLeg), (id SS), seval, reduceIte, ne_eq]
  refine awp_keep [1, 2, 3, 9] [3] ?_
  simp only [Later, (id F_rLeg), (id SS), seval, reduceIte, ne_eq]
  repeat' first|refine awS ?_|refine awB ?_
  refine awp_loopw (fun n st => ∃ k nx, k ≤ g.debts.length ∧ n = g.debts.length - k ∧ lgD l0 (g.debts.drop k) k = lgD l0 g.debts 0 ∧ st = ⟨mkT [(1, one (.int .i64 l0.1)), (2, one (.int .i64 l0.2)), (3, .val (.one (.ptr 3 0 0))), (9, one (.int .i64 k))], mkH [(3, ⟨0, 30, 2, 1, cGrp g⟩)], nx, 0⟩) g.debts.length ⟨0, _, by omega, by omega, rfl, rfl⟩ ?_
  rintro n st ⟨k, nx, hk, rfl, hL, rfl⟩
  by_cases hlt : k < g.debts.length
  · have hI : (k : Int) < (g.debts.length : Int) := by omega
    have hat := flat_at cDebt_len g.debts k hlt
    rw [List.drop_eq_getElem_cons hlt] at hL
    have hdl := hl _ (List.getElem_mem hlt)
    generalize g.debts[k] = d at *
    simp only [lgD] at hL
    repeat' first|refine awS ?_|refine awB ?_
    refine awR [] [none, none, none, none, none] ?_
    simp only [(id F_rLeg), (id SS), seval, reduceIte, ne_eq, hI, cGrp]
    repeat' first|refine awS ?_|refine awB ?_
    refine awT ?_
    refine awp_skip ?_
    simp only [(id F_rLeg), (id SS), seval, reduceIte, ne_eq]
    repeat' first|refine awS ?_|refine awB ?_
    refine awR [] [none] ?_
    simp only [(id F_rLeg), (id SS), seval, reduceIte, ne_eq]
    refine awp_keep [1, 2, 3, 9, 10] [3] ?_
    simp only [Later, (id F_rLeg), (id SS), seval, reduceIte, ne_eq]
    repeat' first|refine awS ?_|refine awB ?_
    refine awp_loopw (fun n st => ∃ j nx, j ≤ d.legs.length ∧ n = d.legs.length - j ∧ lgT l0 (d.legs.drop j) j = lgT l0 d.legs 0 ∧ st = ⟨mkT [(1, one (.int .i64 l0.1)), (2, one (.int .i64 l0.2)), (3, .val (.one (.ptr 3 0 0))), (9, one (.int .i64 k)), (10, one (.int .i64 j))], mkH [(3, ⟨0, 30, 2, 1, cGrp g⟩)], nx, 0⟩) d.legs.length ⟨0, _, by omega, by omega, rfl, rfl⟩ ?_
    rintro n2 st ⟨j, nx2, hj, rfl, hM, rfl⟩
    by_cases hjt : j < d.legs.length
    · have hJ : (j : Int) < (d.legs.length : Int) := by omega
      have hat2 := flat_at cLeg_len d.legs j hjt
      rw [List.drop_eq_getElem_cons hjt] at hM
      generalize d.legs[j] = x at *
      simp only [lgT] at hM
      by_cases c1 : x.1 = l0.1
      · by_cases c2 : x.2 = l0.2
        · have hR : lgD l0 g.debts 0 = some (k, j) := by
            have h1 : lgT l0 d.legs 0 = some j := by rw [← hM]; simp [c1, c2]
            rw [← hL, h1]
          repeat' first|refine awS ?_|refine awB ?_
          refine awR [] [none, none, none, none, none, none, none, none, none] ?_
          simp only [(id F_rLeg), (id SS), seval, reduceIte, ne_eq, hat, hJ, cGrp, cDebt]
          repeat (refine ⟨by first | omega | (simp only [List.length_cons]; omega), ?_⟩)
          repeat' first|refine awS ?_|refine awB ?_
          refine awT ?_
          refine awp_skip ?_
          simp only [(id F_rLeg), (id SS), seval, reduceIte, ne_eq]
          repeat' first|refine awS ?_|refine awB ?_
          refine awR [] [none, none, none, none, none, none, none, none, none, none, none, none, none, some (41, true), some (41, true), some (41, true), some (41, true), some (41, true), some (41, true), some (41, true), some (41, true), some (41, true), some (41, true), some (41, true), some (41, true), none] ?_
          simp only [(id F_rLeg), (id SS), seval, reduceIte, ne_eq, hat, hat2, cGrp, cDebt, cLeg, c1, c2]
          repeat (refine ⟨by first | omega | (simp only [List.length_cons]; omega), ?_⟩)
          repeat' first|refine awS ?_|refine awB ?_
          refine awT ?_
          repeat' first|refine awS ?_|refine awB ?_
          refine awR [] [none, none, none, none, none] ?_
          simp only [(id F_rLeg), (id SS), seval, reduceIte, ne_eq]
          repeat' first|refine awS ?_|refine awB ?_
          refine awp_ret ?_
          simp only [(id F_rLeg), (id SS), seval, reduceIte, ne_eq, hR, lgR]
        · skip
          repeat' first|refine awS ?_|refine awB ?_
          refine awR [] [none, none, none, none, none, none, none, none, none] ?_
          simp only [(id F_rLeg), (id SS), seval, reduceIte, ne_eq, hat, hJ, cGrp, cDebt]
          repeat (refine ⟨by first | omega | (simp only [List.length_cons]; omega), ?_⟩)
          repeat' first|refine awS ?_|refine awB ?_
          refine awT ?_
          refine awp_skip ?_
          simp only [(id F_rLeg), (id SS), seval, reduceIte, ne_eq]
          repeat' first|refine awS ?_|refine awB ?_
          refine awR [] [none, none, none, none, none, none, none, none, none, none, none, none, none, some (41, true), some (41, true), some (41, true), some (41, true), some (41, true), some (41, true), some (41, true), some (41, true), some (41, true), some (41, true), some (41, true), some (41, true), none] ?_
          simp only [(id F_rLeg), (id SS), seval, reduceIte, ne_eq, hat, hat2, cGrp, cDebt, cLeg, c1, c2]
          repeat (refine ⟨by first | omega | (simp only [List.length_cons]; omega), ?_⟩)
          repeat' first|refine awS ?_|refine awB ?_
          refine awF ?_
          refine awp_skip ?_
          simp only [(id F_rLeg), (id SS), seval, reduceIte, ne_eq]
          repeat' first|refine awS ?_|refine awB ?_
          refine awR [] [none, none, none] ?_
          simp only [(id F_rLeg), (id SS), seval, reduceIte, ne_eq]
          repeat (refine ⟨by first | omega | (simp only [List.length_cons]; omega), ?_⟩)
          refine ⟨_, wk_keep [1, 2, 3, 9, 10] [3], d.legs.length - (j + 1), by omega, j + 1, nx2, by omega, rfl, ?_, ?_⟩
          · rw [← hM]; simp [c1, c2]
          · simp only [(id F_rLeg), (id SS), seval, reduceIte, ne_eq]
            try rfl
      · skip
        repeat' first|refine awS ?_|refine awB ?_
        refine awR [] [none, none, none, none, none, none, none, none, none] ?_
        simp only [(id F_rLeg), (id SS), seval, reduceIte, ne_eq, hat, hJ, cGrp, cDebt]
        repeat (refine ⟨by first | omega | (simp only [List.length_cons]; omega), ?_⟩)
        repeat' first|refine awS ?_|refine awB ?_
        refine awT ?_
        refine awp_skip ?_
        simp only [(id F_rLeg), (id SS), seval, reduceIte, ne_eq]
        repeat' first|refine awS ?_|refine awB ?_
        refine awR [] [none, none, none, none, none, none, none, none, none, none, none, none, none, some (41, true), some (41, true), some (41, true), some (41, true), some (41, true), some (41, true), some (41, true), some (41, true), some (41, true), some (41, true), some (41, true), some (41, true), none] ?_
        simp only [(id F_rLeg), (id SS), seval, reduceIte, ne_eq, hat, hat2, cGrp, cDebt, cLeg, c1]
        repeat (refine ⟨by first | omega | (simp only [List.length_cons]; omega), ?_⟩)
        repeat' first|refine awS ?_|refine awB ?_
        refine awF ?_
        refine awp_skip ?_
        simp only [(id F_rLeg), (id SS), seval, reduceIte, ne_eq]
        repeat' first|refine awS ?_|refine awB ?_
        refine awR [] [none, none, none] ?_
        simp only [(id F_rLeg), (id SS), seval, reduceIte, ne_eq]
        repeat (refine ⟨by first | omega | (simp only [List.length_cons]; omega), ?_⟩)
        refine ⟨_, wk_keep [1, 2, 3, 9, 10] [3], d.legs.length - (j + 1), by omega, j + 1, nx2, by omega, rfl, ?_, ?_⟩
        · rw [← hM]; simp [c1]
        · simp only [(id F_rLeg), (id SS), seval, reduceIte, ne_eq]
          try rfl
    · obtain rfl : j = d.legs.length := by omega
      have hJ : ¬ (d.legs.length : Int) < (d.legs.length : Int) := by omega
      rw [List.drop_length] at hM
      simp only [lgT] at hM
      rw [← hM] at hL
      repeat' first|refine awS ?_|refine awB ?_
      refine awR [] [none, none, none, none, none, none, none, none, none] ?_
      simp only [(id F_rLeg), (id SS), seval, reduceIte, ne_eq, hat, hJ, cGrp, cDebt]
      repeat (refine ⟨by first | omega | (simp only [List.length_cons]; omega), ?_⟩)
      repeat' first|refine awS ?_|refine awB ?_
      refine awF ?_
      refine awp_exit ?_
      simp only [(id F_rLeg), (id SS), seval, reduceIte, ne_eq]
      repeat' first|refine awS ?_|refine awB ?_
      refine awR [] [none, none, none] ?_
      simp only [(id F_rLeg), (id SS), seval, reduceIte, ne_eq]
      repeat (refine ⟨by first | omega | (simp only [List.length_cons]; omega), ?_⟩)
      refine ⟨_, wk_keep [1, 2, 3, 9] [3], g.debts.length - (k + 1), by omega, k + 1, nx2, by omega, rfl, hL, ?_⟩
      simp only [(id F_rLeg), (id SS), seval, reduceIte, ne_eq]
      try rfl
  · obtain rfl : k = g.debts.length := by omega
    have hI : ¬ (g.debts.length : Int) < (g.debts.length : Int) := by omega
    rw [List.drop_length] at hL
    simp only [lgD] at hL
    repeat' first|refine awS ?_|refine awB ?_
    refine awR [] [none, none, none, none, none] ?_
    simp only [(id F_rLeg), (id SS), seval, reduceIte, ne_eq, hI, cGrp]
    repeat' first|refine awS ?_|refine awB ?_
    refine awF ?_
    refine awp_exit ?_
    simp only [(id F_rLeg), (id SS), seval, reduceIte, ne_eq]
    repeat' first|refine awS ?_|refine awB ?_
    refine awR [] [none, none, none] ?_
    simp only [(id F_rLeg), (id SS), seval, reduceIte, ne_eq]
    repeat' first|refine awS ?_|refine awB ?_
    refine awp_ret ?_
    simp only [(id F_rLeg), (id SS), seval, reduceIte, ne_eq, ← hL, lgR]
end Go.Proofs.YtogeijhepjcbgaaGreatDoor
end
