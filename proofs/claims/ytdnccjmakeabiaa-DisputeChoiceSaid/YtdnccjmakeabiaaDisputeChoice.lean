/- DisputeChoice answers true for every input, and leaves its arguments as they were. No condition. -/
import Derived.Test.YtdnccjmakeabiaaRows
import Derived.Test.YtdnccjmakeabiaaLawChoice
import Derived.Test.YtdnccjmakeabiaaLaw
namespace Go.Proofs.Ytdnccjmakeabiaa
open Go.RowKit Go.ChangeShapes Go.WideShapes Go.ChangeAt

theorem Try.own : ownKnob Try.prog.godebug = none := by kernel_rfl
theorem Try.laidOut : laidOutB Try.prog = true := by kernel_rfl
theorem Try.cellsU8 : Try.prog.cellsOf 5 = 1 := by kernel_rfl
theorem Try.cellsInt : Try.prog.cellsOf 3 = 1 := by kernel_rfl
theorem law_choice_arg (v0 v1 v2 : Value) (l : List Nat) (k : Int) (c : List Int) (w : World) (h0 : rSlice 1 rU8 w (LT w.heap.size) [v0] l) (h1 : rI64 w (LT w.heap.size) [v1] k) (h2 : rSlice 1 rI64 w (LT w.heap.size) [v2] c) :
    Calls Try.prog 4 #[v0, v1, v2] w fun e w' => e = .returned (.bool true) ∧ Below w.heap.size w w' := by
  obtain ⟨e, _⟩ := h1
  simp only [List.cons.injEq, and_true] at e
  subst e
  exact law_choice v0 v2 l k c w h0 h2

set_option maxRecDepth 100000 in
theorem disputeChoice_lifted (os : Os) (started : os.Started) (H : Type) (enc : TypeId × Value → H) :
    ReturnsInHanded {} Try.checked os 4 .any (Rows.disputeChoiceSpec.pre6 enc Try.prog Try.f4 Rows.disputeChoiceRow.domain false) (Rows.disputeChoiceSpec.post enc Try.prog Try.f4 false true false false) := by
  refine returnsInHanded_of_change (C := Try.checked) Try.own started (by kernel_rfl) Try.func4
    (ChangeSpec.witness6 (enc := enc) (C := Try.checked) false ⟨#[], #[.slice none 0 0, .int .i64 0, .slice none 0 0], []⟩ 8 (by kernel_rfl) (by kernel_rfl) (by kernel_rfl) (by kernel_rfl)) ?_
  intro W base args ds gs before hval0 hW hcnd _
  have hval : ∀ (j : Nat) t v, Try.f4.params[j]? = some t → args[j]? = some v → Value.okWide Try.prog W .any base t v := hval0
  have hW' := hW
  obtain ⟨p, q, hA0, hV, rfl, hfz, hnd⟩ := hW
  have hA : DataW.TrodAll enc Try.prog W 0 (fun _ => true) true Try.f4.params.toList args.toList ds p := hA0
  rw [Try.params4] at hA hval
  obtain ⟨v0, vs0, d0, ds0, p0, q0, hargs, rfl, rfl, h0, r0⟩ := trodAll_cons hA
  obtain ⟨v1, vs1, d1, ds1, p1, q1, rfl, rfl, rfl, h1, r1⟩ := trodAll_cons r0
  obtain ⟨v2, vs2, d2, ds2, p2, q2, rfl, rfl, rfl, h2, r2⟩ := trodAll_cons r1
  obtain ⟨rfl, rfl, rfl⟩ := trodAll_nil r2
  obtain rfl : args = #[v0, v1, v2] := by cases args; simp_all
  obtain ⟨rfl, rfl⟩ := trodVars_none hV
  obtain ⟨l0, o0⟩ := open_slice_arg Try.underlying22 (hval 0 22 v0 rfl rfl) (opens_slice Try.underlying22 Try.cellsU8 (by omega) (opens_u8 Try.underlying5)) h0
  obtain ⟨l1, o1⟩ := open_int_arg Try.underlying3 (hval 1 3 v1 rfl rfl) (opens_i64 Try.underlying3) h1
  obtain ⟨l2, o2⟩ := open_slice_arg Try.underlying32 (hval 2 32 v2 rfl rfl) (opens_slice Try.underlying32 Try.cellsInt (by omega) (opens_i64 Try.underlying3)) h2
  clear hA0 hval0
  refine (law_choice_arg v0 v1 v2 l0 l1 l2 W o0 o1 o2).mono fun e W' ⟨he, hb⟩ => ?_
  subst he
  exact ⟨_, rfl, law_post Try.laidOut (by kernel_rfl) rfl hW' rfl rfl rfl (by kernel_rfl) Try.underlying4 hb⟩

theorem disputeChoice_holds : Rows.DisputeChoiceSaid :=
  OpenClaim.holds_of_wide 4 Try.f4 rfl rfl rfl rfl rfl rfl rfl ⟨rfl, rfl, rfl, rfl, rfl⟩ rfl rfl rfl rfl rfl (by kernel_rfl) Try.func4 (by kernel_rfl)
    (of_decide_eq_true (by kernel_rfl)) (by unfold Func.isWrapper; first | (rw [if_pos (by decide +kernel)]; kernel_rfl) | (rw [if_neg (by decide +kernel)]; exact ⟨rfl, rfl⟩))
    (fun os started H enc _ => disputeChoice_lifted os started H enc)

#print axioms disputeChoice_holds
end Go.Proofs.Ytdnccjmakeabiaa
