/- DisputeApply answers true for every input, and leaves its arguments as they were. The tables of unicode/utf8 that the row lists are tied to the text by the given tie; the walk does not look into them. No further condition. -/
import Derived.Test.YtokmkopihhnggaaGreatDoorJfM
import Derived.Test.YtokmkopihhnggaaGreatDoorCards
import Derived.Test.YtokmkopihhnggaaGreatDoorTie
import Derived.Test.YtokmkopihhnggaaGreatDoorDc3M
import Derived.Test.YtokmkopihhnggaaGreatDoorLawM
import Derived.OpenShut
import Derived.Deep.DeepHandedRow
set_option linter.unusedVariables false
set_option linter.unusedSimpArgs false
/- DisputeApply answers true for every input, and leaves its arguments as they were. The tables of unicode/utf8 that the row lists are tied to the text by the given tie; the walk does not look into them. No further condition. -/
namespace Go.Proofs.YtokmkopihhnggaaGreatDoor.disputeApply
open Go.RowKit Go.ChangeShapes Go.WideShapes Go.ChangeAt Go.Proofs.YtokmkopihhnggaaGreatDoor
theorem own : ownKnob Tryz.prog.godebug = none := by kernel_rfl
theorem laidOut : laidOutB Tryz.prog = true := by kernel_rfl
def lay (cs : Array Value) : Obj → Obj
 | .cells _ t frozen => .cells cs t frozen
 | o => o
noncomputable def laidWorld (os : Os) : World :=
 { World.holding Tryz.prog os ⟨#[], #[], []⟩ with heap := ((World.holding Tryz.prog os ⟨#[], #[], []⟩).heap.modify 1 (lay ((Go.Pinned.utf8FirstZ.map fun n : Nat => Value.int .u8 (n : Int)).toArray))).modify 2 (lay #[.int .u8 128, .int .u8 191, .int .u8 160, .int .u8 191, .int .u8 128, .int .u8 159, .int .u8 144, .int .u8 191, .int .u8 128, .int .u8 143, .int .u8 0, .int .u8 0, .int .u8 0, .int .u8 0, .int .u8 0, .int .u8 0, .int .u8 0, .int .u8 0, .int .u8 0, .int .u8 0, .int .u8 0, .int .u8 0, .int .u8 0, .int .u8 0, .int .u8 0, .int .u8 0, .int .u8 0, .int .u8 0, .int .u8 0, .int .u8 0, .int .u8 0, .int .u8 0]) }
theorem laid_met (os : Os) : laidMet Tryz.prog Rows.disputeApplyRow.laid ((laidWorld os).forCall (fun _ _ => 0) ⟨#[], #[.int .u8 0, .slice none 0 0, .slice none 0 0, .slice none 0 0, .slice none 0 0, .slice none 0 0, .int .u16 0, .slice none 0 0, .bool false], []⟩).memory :=
 laidMet_of_run' 8 (by kernel_rfl) (by kernel_rfl)
theorem reads (os : Os) {H : Type} (enc : TypeId × Value → H) : ∃ places, DataW.whole enc Tryz.prog ((laidWorld os).forCall (fun _ _ => 0) ⟨#[], #[.int .u8 0, .slice none 0 0, .slice none 0 0, .slice none 0 0, .slice none 0 0, .slice none 0 0, .int .u16 0, .slice none 0 0, .bool false], []⟩).memory Tryz.f4.params.toList Rows.disputeApplySpec.vars false #[.int .u8 0, .slice none 0 0, .slice none 0 0, .slice none 0 0, .slice none 0 0, .slice none 0 0, .int .u16 0, .slice none 0 0, .bool false].toList 8 = some ([.lit (.int .u8 0), .nil, .nil, .nil, .nil, .nil, .lit (.int .u16 0), .nil, .lit (.bool false)], [], places) :=
 ⟨[], by kernel_rfl⟩
set_option maxRecDepth 100000 in
theorem contract (H : Type) (enc : TypeId × Value → H) (W : World) (base : Nat) (args : Array Value) (ds gs : List (DataW H)) (before : List MemPlace)
  (hval0 : ∀ (j : Nat) t v, Tryz.f4.params[j]? = some t → args[j]? = some v → Value.okWide Tryz.prog W .any base t v)
  (hW : DataW.Whole enc Tryz.prog Tryz.f4.params.toList Rows.disputeApplySpec.vars false W args.toList ds gs before) :
  Calls Tryz.prog 4 args W fun e W' => ∃ v, e = .returned v ∧ Rows.disputeApplySpec.post enc Tryz.prog Tryz.f4 false true false false W args v W' := by
 have hval : ∀ (j : Nat) t v, Tryz.f4.params[j]? = some t → args[j]? = some v → Value.okWide Tryz.prog W .any base t v := hval0
 have hW' := hW
 obtain ⟨p, q, hA0, hV, rfl, hfz, hnd⟩ := hW
 have hA : DataW.TrodAll enc Tryz.prog W 0 (fun _ => true) true Tryz.f4.params.toList args.toList ds p := hA0
 rw [Tryz.params4] at hA hval
 obtain ⟨v0, vs0, d0, ds0, p0, q0, hargs, rfl, rfl, h0, r0⟩ := trodAll_cons hA
 obtain ⟨v1, vs1, d1, ds1, p1, q1, rfl, rfl, rfl, h1, r1⟩ := trodAll_cons r0
 obtain ⟨v2, vs2, d2, ds2, p2, q2, rfl, rfl, rfl, h2, r2⟩ := trodAll_cons r1
 obtain ⟨v3, vs3, d3, ds3, p3, q3, rfl, rfl, rfl, h3, r3⟩ := trodAll_cons r2
 obtain ⟨v4, vs4, d4, ds4, p4, q4, rfl, rfl, rfl, h4, r4⟩ := trodAll_cons r3
 obtain ⟨v5, vs5, d5, ds5, p5, q5, rfl, rfl, rfl, h5, r5⟩ := trodAll_cons r4
 obtain ⟨v6, vs6, d6, ds6, p6, q6, rfl, rfl, rfl, h6, r6⟩ := trodAll_cons r5
 obtain ⟨v7, vs7, d7, ds7, p7, q7, rfl, rfl, rfl, h7, r7⟩ := trodAll_cons r6
 obtain ⟨v8, vs8, d8, ds8, p8, q8, rfl, rfl, rfl, h8, r8⟩ := trodAll_cons r7
 obtain ⟨rfl, rfl, rfl⟩ := trodAll_nil r8
 obtain rfl : args = #[v0, v1, v2, v3, v4, v5, v6, v7, v8] := by cases args; simp_all
 obtain ⟨rfl, rfl⟩ := trodVars_none hV
 obtain ⟨l0, o0⟩ := open_int_arg Tryz.underlying5 (hval 0 5 v0 rfl rfl) (opensC_u8) h0
 obtain ⟨l1, o1⟩ := open_slice_arg Tryz.underlying56 (hval 1 56 v1 rfl rfl) (opensC_u16s) h1
 obtain ⟨l2, o2⟩ := open_slice_arg Tryz.underlying22 (hval 2 22 v2 rfl rfl) (opensC_N4s) h2
 obtain ⟨l3, o3⟩ := open_slice_arg Tryz.underlying22 (hval 3 22 v3 rfl rfl) (opensC_N4s) h3
 obtain ⟨l4, o4⟩ := open_slice_arg Tryz.underlying23 (hval 4 23 v4 rfl rfl) (opensC_N3s) h4
 obtain ⟨l5, o5⟩ := open_slice_arg Tryz.underlying23 (hval 5 23 v5 rfl rfl) (opensC_N3s) h5
 obtain ⟨l6, o6⟩ := open_int_arg Tryz.underlying57 (hval 6 57 v6 rfl rfl) (opensC_u16) h6
 obtain ⟨l7, o7⟩ := open_slice_arg Tryz.underlying58 (hval 7 58 v7 rfl rfl) (opensC_ints) h7
 obtain ⟨l8, o8⟩ := open_bool_arg Tryz.underlying4 (hval 8 4 v8 rfl rfl) (opensC_boolT) h8
 clear hA0 hval0
 refine (lDA_walk v0 v1 v2 v3 v4 v5 v6 v7 v8 l0 l1 l2 l3 l4 l5 l6 l7 l8 W o0 o1 o2 o3 o4 o5 o6 o7 o8).mono fun e W' ⟨he, hb⟩ => ?_
 subst he
 exact ⟨_, rfl, law_post laidOut (by kernel_rfl) rfl hW' rfl rfl rfl (by kernel_rfl) Tryz.underlying4 hb⟩
set_option maxRecDepth 100000 in
theorem lifted (os : Os) (started : os.Started) (H : Type) (enc : TypeId × Value → H) (F : Stop.Interp) :
  ReturnsInHanded {} Tryz.checked os 4 .any ((OpenSpec.ofChange Rows.disputeApplySpec).preRow enc Tryz.prog Tryz.f4 Rows.disputeApplyRow.domain false Rows.disputeApplyRow.laid) (((OpenSpec.ofChange Rows.disputeApplySpec).at F).post enc Tryz.prog Tryz.f4 false true false false) := by
 obtain ⟨places, hx⟩ := reads os enc
 refine returnsInHanded_of_row (C := Tryz.checked) (s := OpenSpec.ofChange Rows.disputeApplySpec) own started (by kernel_rfl) Tryz.func4
  (witness_row_at (enc := enc) (C := Tryz.checked) false (laidWorld os) #[.int .u8 0, .slice none 0 0, .slice none 0 0, .slice none 0 0, .slice none 0 0, .slice none 0 0, .int .u16 0, .slice none 0 0, .bool false] rfl (by kernel_rfl) (by kernel_rfl) (by kernel_rfl)
   (OpenSpec.preRow_of_cond 8 hx (by kernel_rfl) (fun k hk => by cases hk) (by kernel_rfl) (laid_met os))) ?_
 intro W base args ds gs before hval hW _ _ _ _ _ _
 exact contract H enc W base args ds gs before hval hW
theorem s1 : Tryz.pinned.checked.prog.funcNamed Rows.disputeApplyRow.func = some 4 := by kernel_rfl
theorem s2 : Tryz.f4.isInstance Tryz.pinned.checked.prog Rows.disputeApplyRow.origin Rows.disputeApplyRow.targs := of_decide_eq_true (by kernel_rfl)
theorem s3 : Tryz.f4.isWrapper Tryz.pinned.checked.prog Rows.disputeApplyRow.wrapper Rows.disputeApplyRow.mainSum := (by unfold Func.isWrapper; first | (rw [if_pos (by decide +kernel)]; kernel_rfl) | (rw [if_neg (by decide +kernel)]; exact ⟨rfl, rfl⟩))
theorem s4 : false = Rows.disputeApplyRow.goesBy Tryz.pinned.checked.prog := by kernel_rfl
theorem s5 : false = Tryz.pinned.checked.prog.looks [] := by kernel_rfl
theorem s6 : Rows.disputeApplyRow.wfByText (OpenSpec.ofChange Rows.disputeApplySpec) = true := by kernel_rfl
theorem s7 : Tryz.pinned.checked.prog.mainIs = some (Rows.disputeApplyCard.stood.harness.1, Rows.disputeApplyCard.stood.harness.2.toList) := by kernel_rfl
theorem c1 : jf1 Tryz.pinned.checked.prog Tryz.f4 (OpenSpec.ofChange Rows.disputeApplySpec).bare Rows.disputeApplyRow = true := by kernel_rfl
theorem c1b : jf2 Tryz.pinned.checked.prog (OpenSpec.ofChange Rows.disputeApplySpec).bare Rows.disputeApplyRow = true := by kernel_rfl
theorem c1c : jf3 Tryz.pinned.checked.prog Rows.disputeApplyRow = true := by kernel_rfl
theorem c2 : (Rows.disputeApplyRow.inPlace == Tryz.pinned.checked.prog.inPlace 4) = true := by kernel_rfl
theorem c3 : (Rows.disputeApplyRow.unfollowed == Tryz.pinned.checked.prog.unfollowed 4) = true := by kernel_rfl
theorem c4 : (Rows.disputeApplyRow.recurses == Tryz.pinned.checked.prog.recurses 4) = true := by kernel_rfl
theorem c5 : (Rows.disputeApplyRow.named == Tryz.pinned.checked.prog.varsNamed 4) = true := by kernel_rfl
theorem c6 : jf6 Tryz.pinned.checked.prog Tryz.f4 (OpenSpec.ofChange Rows.disputeApplySpec).bare Rows.disputeApplyRow = true := by kernel_rfl
theorem c7 : (Rows.disputeApplyRow.plainKeys == Tryz.pinned.checked.prog.plainKeys) = true := by kernel_rfl
theorem c8 : jf8 Tryz.pinned.checked.prog Rows.disputeApplyRow = true := by kernel_rfl
theorem c9 : Tryz.pinned.checked.prog.mayEnter = true := by kernel_rfl
theorem c10 : (Rows.disputeApplyRow.lifted == Tryz.pinned.checked.prog.liftsFinal) = true := by kernel_rfl
theorem c11 : jf11 Tryz.pinned.checked.prog Tryz.f4 (OpenSpec.ofChange Rows.disputeApplySpec).bare Rows.disputeApplyRow = true := by kernel_rfl
theorem c12 : jf12 Tryz.pinned.checked.prog Tryz.f4 (OpenSpec.ofChange Rows.disputeApplySpec).bare Rows.disputeApplyRow = true := by kernel_rfl
theorem closed : joinedFacts Tryz.pinned.checked.prog 4 Tryz.f4 (OpenSpec.ofChange Rows.disputeApplySpec).bare Rows.disputeApplyRow = true := jf_of c1 c1b c1c c2 c3 c4 c5 c6 c7 c8 c9 c10 c11 c12
theorem said : Rows.DisputeApplySaid :=
 OpenClaim.holds_of_cond 4 Tryz.f4 rfl rfl rfl rfl rfl rfl rfl ⟨rfl, rfl, rfl, rfl, rfl⟩ rfl rfl rfl rfl rfl s1 Tryz.func4 closed
  s2 s3
  (fun os started H enc _ F => by rw [OpenClaim.pre_eq_preRow]; exact lifted os started H enc F)
theorem plain (f : FuncId) (fn : Func) (hf : Tryz.pinned.checked.prog.funcNamed "insolvency/insolvencylaw22.DisputeApply" = some f) (hfn : Tryz.pinned.checked.prog.funcs[f]? = some fn) :
  false = Tryz.pinned.checked.prog.looks [] ∧ ∀ (j : Nat) t, fn.params[j]? = some t → Tryz.pinned.checked.prog.wantsStandIn t = false := by
 obtain rfl : f = 4 := Option.some.inj ((show Tryz.prog.funcNamed "insolvency/insolvencylaw22.DisputeApply" = some 4 from s1).symm.trans hf) |>.symm
 obtain rfl : fn = Tryz.f4 := (Option.some.inj (Tryz.func4.symm.trans hfn)).symm
 refine ⟨s5, fun j t ht => ?_⟩
 rw [Tryz.params4] at ht
 have hm := Array.mem_of_getElem? ht
 have : t = 5 ∨ t = 56 ∨ t = 22 ∨ t = 22 ∨ t = 23 ∨ t = 23 ∨ t = 57 ∨ t = 58 ∨ t = 4 := by simpa using hm
 rcases this with rfl | rfl | rfl | rfl | rfl | rfl | rfl | rfl | rfl
 ·exact (show Tryz.prog.wantsStandIn 5 = false by kernel_rfl)
 ·exact (show Tryz.prog.wantsStandIn 56 = false by kernel_rfl)
 ·exact (show Tryz.prog.wantsStandIn 22 = false by kernel_rfl)
 ·exact (show Tryz.prog.wantsStandIn 22 = false by kernel_rfl)
 ·exact (show Tryz.prog.wantsStandIn 23 = false by kernel_rfl)
 ·exact (show Tryz.prog.wantsStandIn 23 = false by kernel_rfl)
 ·exact (show Tryz.prog.wantsStandIn 57 = false by kernel_rfl)
 ·exact (show Tryz.prog.wantsStandIn 58 = false by kernel_rfl)
 exact (show Tryz.prog.wantsStandIn 4 = false by kernel_rfl)
end Go.Proofs.YtokmkopihhnggaaGreatDoor.disputeApply
namespace Go.Proofs.YtokmkopihhnggaaGreatDoor
theorem disputeApply_holds : Rows.DisputeApplyCardSaid :=
 Claim7.holds_tied_plain_at .later [] _ _ _ _ disputeApply.said (fun _ h => by cases h) disputeApply.s6 (fun _ h => by cases h) disputeApply_row_tie rfl ⟨rfl, rfl⟩ disputeApply.s7 rfl disputeApply.plain disputeApply.s4
#print axioms disputeApply_holds
end Go.Proofs.YtokmkopihhnggaaGreatDoor
