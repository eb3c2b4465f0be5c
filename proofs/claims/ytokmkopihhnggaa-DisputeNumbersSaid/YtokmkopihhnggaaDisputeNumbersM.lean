/- DisputeNumbers answers true for every input, and leaves its arguments as they were. No condition. -/
import Derived.Test.YtokmkopihhnggaaRows
import Derived.Test.YtokmkopihhnggaaDc3M
import Derived.Test.YtokmkopihhnggaaLawM
set_option linter.unusedVariables false
set_option linter.unusedSimpArgs false
set_option linter.defProp false
set_option linter.unnecessarySimpa false
/- DisputeNumbers answers true for every input, and leaves its arguments as they were. No condition. -/
namespace Go.Proofs.Ytokmkopihhnggaa
open Go.RowKit Go.ChangeShapes Go.WideShapes Go.ChangeAt
theorem Try.own : ownKnob Try.prog.godebug = none := by kernel_rfl
theorem Try.laidOut : laidOutB Try.prog = true := by kernel_rfl
set_option maxRecDepth 100000 in
theorem disputeNumbers_lifted (os : Os) (started : os.Started) (H : Type) (enc : TypeId × Value → H) :
    ReturnsInHanded {} Try.checked os 3 .any (Rows.disputeNumbersSpec.pre6 enc Try.prog Try.f3 Rows.disputeNumbersRow.domain false) (Rows.disputeNumbersSpec.post enc Try.prog Try.f3 false true false false) := by
  refine returnsInHanded_of_change (C := Try.checked) Try.own started (by kernel_rfl) Try.func3
    (ChangeSpec.witness6 (enc := enc) (C := Try.checked) false ⟨#[], #[.int .u8 0, .slice none 0 0, .slice none 0 0, .slice none 0 0, .int .u16 0, .int .u16 0], []⟩ 8 (by kernel_rfl) (by kernel_rfl) (by kernel_rfl) (by kernel_rfl)) ?_
  intro W base args ds gs before hval0 hW hcnd _
  have hval : ∀ (j : Nat) t v, Try.f3.params[j]? = some t → args[j]? = some v → Value.okWide Try.prog W .any base t v := hval0
  have hW' := hW
  obtain ⟨p, q, hA0, hV, rfl, hfz, hnd⟩ := hW
  have hA : DataW.TrodAll enc Try.prog W 0 (fun _ => true) true Try.f3.params.toList args.toList ds p := hA0
  rw [Try.params3] at hA hval
  obtain ⟨v0, vs0, d0, ds0, p0, q0, hargs, rfl, rfl, h0, r0⟩ := trodAll_cons hA
  obtain ⟨v1, vs1, d1, ds1, p1, q1, rfl, rfl, rfl, h1, r1⟩ := trodAll_cons r0
  obtain ⟨v2, vs2, d2, ds2, p2, q2, rfl, rfl, rfl, h2, r2⟩ := trodAll_cons r1
  obtain ⟨v3, vs3, d3, ds3, p3, q3, rfl, rfl, rfl, h3, r3⟩ := trodAll_cons r2
  obtain ⟨v4, vs4, d4, ds4, p4, q4, rfl, rfl, rfl, h4, r4⟩ := trodAll_cons r3
  obtain ⟨v5, vs5, d5, ds5, p5, q5, rfl, rfl, rfl, h5, r5⟩ := trodAll_cons r4
  obtain ⟨rfl, rfl, rfl⟩ := trodAll_nil r5
  obtain rfl : args = #[v0, v1, v2, v3, v4, v5] := by cases args; simp_all
  obtain ⟨rfl, rfl⟩ := trodVars_none hV
  obtain ⟨l0, o0⟩ := open_int_arg Try.underlying5 (hval 0 5 v0 rfl rfl) (opensC_u8) h0
  obtain ⟨l1, o1⟩ := open_slice_arg Try.underlying22 (hval 1 22 v1 rfl rfl) (opensC_u16s) h1
  obtain ⟨l2, o2⟩ := open_slice_arg Try.underlying23 (hval 2 23 v2 rfl rfl) (opensC_N4s) h2
  obtain ⟨l3, o3⟩ := open_slice_arg Try.underlying23 (hval 3 23 v3 rfl rfl) (opensC_N4s) h3
  obtain ⟨l4, o4⟩ := open_int_arg Try.underlying24 (hval 4 24 v4 rfl rfl) (opensC_u16) h4
  obtain ⟨l5, o5⟩ := open_int_arg Try.underlying24 (hval 5 24 v5 rfl rfl) (opensC_u16) h5
  clear hA0 hval0
  refine (lDN_walk v0 v1 v2 v3 v4 v5 l0 l1 l2 l3 l4 l5 W o0 o1 o2 o3 o4 o5).mono fun e W' ⟨he, hb⟩ => ?_
  subst he
  exact ⟨_, rfl, law_post Try.laidOut (by kernel_rfl) rfl hW' rfl rfl rfl (by kernel_rfl) Try.underlying4 hb⟩
theorem disputeNumbers_holds : Rows.DisputeNumbersSaid :=
  OpenClaim.holds_of_wide 3 Try.f3 rfl rfl rfl rfl rfl rfl rfl ⟨rfl, rfl, rfl, rfl, rfl⟩ rfl rfl rfl rfl rfl (by kernel_rfl) Try.func3 (by kernel_rfl)
    (of_decide_eq_true (by kernel_rfl)) (by unfold Func.isWrapper; first | (rw [if_pos (by decide +kernel)]; kernel_rfl) | (rw [if_neg (by decide +kernel)]; exact ⟨rfl, rfl⟩))
    (fun os started H enc _ => disputeNumbers_lifted os started H enc)
#print axioms disputeNumbers_holds
end Go.Proofs.Ytokmkopihhnggaa
