/- WaterfallLinear answers true for every input, and leaves its arguments as they were. The tables of unicode/utf8 that the row lists are tied to the text by the given tie; the walk does not look into them. No further condition. -/
import Derived.Test.YtokmkopihhnggaaGreatDoorJfM
import Derived.Test.YtokmkopihhnggaaGreatDoorCards
import Derived.Test.YtokmkopihhnggaaGreatDoorTie
import Derived.Test.YtokmkopihhnggaaGreatDoorLWLM
import Derived.Test.YtokmkopihhnggaaGreatDoorWf6M
import Derived.OpenShut
import Derived.Deep.DeepHandedRow
set_option linter.unusedVariables false
set_option linter.unusedSimpArgs false
/- WaterfallLinear answers true for every input, and leaves its arguments as they were. The tables of unicode/utf8 that the row lists are tied to the text by the given tie; the walk does not look into them. No further condition. -/
namespace Go.Proofs.YtokmkopihhnggaaGreatDoor.waterfallLinear
open Go.RowKit Go.ChangeShapes Go.WideShapes Go.ChangeAt Go.Proofs.YtokmkopihhnggaaGreatDoor
theorem own : ownKnob Tryz.prog.godebug = none := by kernel_rfl
theorem laidOut : laidOutB Tryz.prog = true := by kernel_rfl
def lay (cs : Array Value) : Obj → Obj
 | .cells _ t frozen => .cells cs t frozen
 | o => o
noncomputable def laidWorld (os : Os) : World :=
 { World.holding Tryz.prog os ⟨#[], #[], []⟩ with heap := ((World.holding Tryz.prog os ⟨#[], #[], []⟩).heap.modify 1 (lay ((Go.Pinned.utf8FirstZ.map fun n : Nat => Value.int .u8 (n : Int)).toArray))).modify 2 (lay #[.int .u8 128, .int .u8 191, .int .u8 160, .int .u8 191, .int .u8 128, .int .u8 159, .int .u8 144, .int .u8 191, .int .u8 128, .int .u8 143, .int .u8 0, .int .u8 0, .int .u8 0, .int .u8 0, .int .u8 0, .int .u8 0, .int .u8 0, .int .u8 0, .int .u8 0, .int .u8 0, .int .u8 0, .int .u8 0, .int .u8 0, .int .u8 0, .int .u8 0, .int .u8 0, .int .u8 0, .int .u8 0, .int .u8 0, .int .u8 0, .int .u8 0, .int .u8 0]) }
theorem laid_met (os : Os) : laidMet Tryz.prog Rows.waterfallLinearRow.laid ((laidWorld os).forCall (fun _ _ => 0) ⟨#[], #[.slice none 0 0, .slice none 0 0, .int .u16 0, .int .u8 0], []⟩).memory :=
 laidMet_of_run' 8 (by kernel_rfl) (by kernel_rfl)
theorem reads (os : Os) {H : Type} (enc : TypeId × Value → H) : ∃ places, DataW.whole enc Tryz.prog ((laidWorld os).forCall (fun _ _ => 0) ⟨#[], #[.slice none 0 0, .slice none 0 0, .int .u16 0, .int .u8 0], []⟩).memory Tryz.f8.params.toList Rows.waterfallLinearSpec.vars false #[.slice none 0 0, .slice none 0 0, .int .u16 0, .int .u8 0].toList 8 = some ([.nil, .nil, .lit (.int .u16 0), .lit (.int .u8 0)], [], places) :=
 ⟨[], by kernel_rfl⟩
set_option maxRecDepth 100000 in
theorem contract (H : Type) (enc : TypeId × Value → H) (W : World) (base : Nat) (args : Array Value) (ds gs : List (DataW H)) (before : List MemPlace)
  (hval0 : ∀ (j : Nat) t v, Tryz.f8.params[j]? = some t → args[j]? = some v → Value.okWide Tryz.prog W .any base t v)
  (hW : DataW.Whole enc Tryz.prog Tryz.f8.params.toList Rows.waterfallLinearSpec.vars false W args.toList ds gs before) :
  Calls Tryz.prog 8 args W fun e W' => ∃ v, e = .returned v ∧ Rows.waterfallLinearSpec.post enc Tryz.prog Tryz.f8 false true false false W args v W' := by
 have hval : ∀ (j : Nat) t v, Tryz.f8.params[j]? = some t → args[j]? = some v → Value.okWide Tryz.prog W .any base t v := hval0
 have hW' := hW
 obtain ⟨p, q, hA0, hV, rfl, hfz, hnd⟩ := hW
 have hA : DataW.TrodAll enc Tryz.prog W 0 (fun _ => true) true Tryz.f8.params.toList args.toList ds p := hA0
 rw [Tryz.params8] at hA hval
 obtain ⟨v0, vs0, d0, ds0, p0, q0, hargs, rfl, rfl, h0, r0⟩ := trodAll_cons hA
 obtain ⟨v1, vs1, d1, ds1, p1, q1, rfl, rfl, rfl, h1, r1⟩ := trodAll_cons r0
 obtain ⟨v2, vs2, d2, ds2, p2, q2, rfl, rfl, rfl, h2, r2⟩ := trodAll_cons r1
 obtain ⟨v3, vs3, d3, ds3, p3, q3, rfl, rfl, rfl, h3, r3⟩ := trodAll_cons r2
 obtain ⟨rfl, rfl, rfl⟩ := trodAll_nil r3
 obtain rfl : args = #[v0, v1, v2, v3] := by cases args; simp_all
 obtain ⟨rfl, rfl⟩ := trodVars_none hV
 obtain ⟨l0, o0⟩ := open_slice_arg Tryz.underlying22 (hval 0 22 v0 rfl rfl) (opensC_N4s) h0
 obtain ⟨l1, o1⟩ := open_slice_arg Tryz.underlying23 (hval 1 23 v1 rfl rfl) (opensC_N3s) h1
 obtain ⟨l2, o2⟩ := open_int_arg Tryz.underlying57 (hval 2 57 v2 rfl rfl) (opensC_u16) h2
 obtain ⟨l3, o3⟩ := open_int_arg Tryz.underlying5 (hval 3 5 v3 rfl rfl) (opensC_u8) h3
 clear hA0 hval0
 refine (lWL_walk v0 v1 v2 v3 l0 l1 l2 l3 W o0 o1 o2 o3).mono fun e W' ⟨he, hb⟩ => ?_
 subst he
 exact ⟨_, rfl, law_post laidOut (by kernel_rfl) rfl hW' rfl rfl rfl (by kernel_rfl) Tryz.underlying4 hb⟩
set_option maxRecDepth 100000 in
theorem lifted (os : Os) (started : os.Started) (H : Type) (enc : TypeId × Value → H) (F : Stop.Interp) :
  ReturnsInHanded {} Tryz.checked os 8 .any ((OpenSpec.ofChange Rows.waterfallLinearSpec).preRow enc Tryz.prog Tryz.f8 Rows.waterfallLinearRow.domain false Rows.waterfallLinearRow.laid) (((OpenSpec.ofChange Rows.waterfallLinearSpec).at F).post enc Tryz.prog Tryz.f8 false true false false) := by
 obtain ⟨places, hx⟩ := reads os enc
 refine returnsInHanded_of_row (C := Tryz.checked) (s := OpenSpec.ofChange Rows.waterfallLinearSpec) own started (by kernel_rfl) Tryz.func8
  (witness_row_at (enc := enc) (C := Tryz.checked) false (laidWorld os) #[.slice none 0 0, .slice none 0 0, .int .u16 0, .int .u8 0] rfl (by kernel_rfl) (by kernel_rfl) (by kernel_rfl)
   (OpenSpec.preRow_of_cond 8 hx (by kernel_rfl) (fun k hk => by cases hk) (by kernel_rfl) (laid_met os))) ?_
 intro W base args ds gs before hval hW _ _ _ _ _ _
 exact contract H enc W base args ds gs before hval hW
theorem c1 : jf1 Tryz.pinned.checked.prog Tryz.f8 (OpenSpec.ofChange Rows.waterfallLinearSpec).bare Rows.waterfallLinearRow = true := by kernel_rfl
theorem c1b : jf2 Tryz.pinned.checked.prog (OpenSpec.ofChange Rows.waterfallLinearSpec).bare Rows.waterfallLinearRow = true := by kernel_rfl
theorem c1c : jf3 Tryz.pinned.checked.prog Rows.waterfallLinearRow = true := by kernel_rfl
theorem c2 : (Rows.waterfallLinearRow.inPlace == Tryz.pinned.checked.prog.inPlace 8) = true := by kernel_rfl
theorem c3 : (Rows.waterfallLinearRow.unfollowed == Tryz.pinned.checked.prog.unfollowed 8) = true := by kernel_rfl
theorem c4 : (Rows.waterfallLinearRow.recurses == Tryz.pinned.checked.prog.recurses 8) = true := by kernel_rfl
theorem c5 : (Rows.waterfallLinearRow.named == Tryz.pinned.checked.prog.varsNamed 8) = true := by kernel_rfl
theorem c6 : jf6 Tryz.pinned.checked.prog Tryz.f8 (OpenSpec.ofChange Rows.waterfallLinearSpec).bare Rows.waterfallLinearRow = true := by kernel_rfl
theorem c7 : (Rows.waterfallLinearRow.plainKeys == Tryz.pinned.checked.prog.plainKeys) = true := by kernel_rfl
theorem c8 : jf8 Tryz.pinned.checked.prog Rows.waterfallLinearRow = true := by kernel_rfl
theorem c9 : Tryz.pinned.checked.prog.mayEnter = true := by kernel_rfl
theorem c10 : (Rows.waterfallLinearRow.lifted == Tryz.pinned.checked.prog.liftsFinal) = true := by kernel_rfl
theorem c11 : jf11 Tryz.pinned.checked.prog Tryz.f8 (OpenSpec.ofChange Rows.waterfallLinearSpec).bare Rows.waterfallLinearRow = true := by kernel_rfl
theorem c12 : jf12 Tryz.pinned.checked.prog Tryz.f8 (OpenSpec.ofChange Rows.waterfallLinearSpec).bare Rows.waterfallLinearRow = true := by kernel_rfl
theorem closed : joinedFacts Tryz.pinned.checked.prog 8 Tryz.f8 (OpenSpec.ofChange Rows.waterfallLinearSpec).bare Rows.waterfallLinearRow = true := jf_of c1 c1b c1c c2 c3 c4 c5 c6 c7 c8 c9 c10 c11 c12
theorem s1 : Tryz.pinned.checked.prog.funcNamed Rows.waterfallLinearRow.func = some 8 := by kernel_rfl
theorem s2 : Tryz.f8.isInstance Tryz.pinned.checked.prog Rows.waterfallLinearRow.origin Rows.waterfallLinearRow.targs := of_decide_eq_true (by kernel_rfl)
theorem s3 : Tryz.f8.isWrapper Tryz.pinned.checked.prog Rows.waterfallLinearRow.wrapper Rows.waterfallLinearRow.mainSum := (by unfold Func.isWrapper; first | (rw [if_pos (by decide +kernel)]; kernel_rfl) | (rw [if_neg (by decide +kernel)]; exact ⟨rfl, rfl⟩))
theorem s4 : false = Rows.waterfallLinearRow.goesBy Tryz.pinned.checked.prog := by kernel_rfl
theorem s5 : false = Tryz.pinned.checked.prog.looks [] := by kernel_rfl
theorem s6 : Rows.waterfallLinearRow.wfByText (OpenSpec.ofChange Rows.waterfallLinearSpec) = true := by kernel_rfl
theorem s7 : Tryz.pinned.checked.prog.mainIs = some (Rows.waterfallLinearCard.stood.harness.1, Rows.waterfallLinearCard.stood.harness.2.toList) := by kernel_rfl
theorem said : Rows.WaterfallLinearSaid :=
 OpenClaim.holds_of_cond 8 Tryz.f8 rfl rfl rfl rfl rfl rfl rfl ⟨rfl, rfl, rfl, rfl, rfl⟩ rfl rfl rfl rfl rfl s1 Tryz.func8 closed
  s2 s3
  (fun os started H enc _ F => by rw [OpenClaim.pre_eq_preRow]; exact lifted os started H enc F)
theorem plain (f : FuncId) (fn : Func) (hf : Tryz.pinned.checked.prog.funcNamed "insolvency/insolvencylaw17.WaterfallLinear" = some f) (hfn : Tryz.pinned.checked.prog.funcs[f]? = some fn) :
  false = Tryz.pinned.checked.prog.looks [] ∧ ∀ (j : Nat) t, fn.params[j]? = some t → Tryz.pinned.checked.prog.wantsStandIn t = false := by
 obtain rfl : f = 8 := Option.some.inj ((show Tryz.prog.funcNamed "insolvency/insolvencylaw17.WaterfallLinear" = some 8 from s1).symm.trans hf) |>.symm
 obtain rfl : fn = Tryz.f8 := (Option.some.inj (Tryz.func8.symm.trans hfn)).symm
 refine ⟨s5, fun j t ht => ?_⟩
 rw [Tryz.params8] at ht
 have hm := Array.mem_of_getElem? ht
 have : t = 22 ∨ t = 23 ∨ t = 57 ∨ t = 5 := by simpa using hm
 rcases this with rfl | rfl | rfl | rfl
 ·exact (show Tryz.prog.wantsStandIn 22 = false by kernel_rfl)
 ·exact (show Tryz.prog.wantsStandIn 23 = false by kernel_rfl)
 ·exact (show Tryz.prog.wantsStandIn 57 = false by kernel_rfl)
 exact (show Tryz.prog.wantsStandIn 5 = false by kernel_rfl)
end Go.Proofs.YtokmkopihhnggaaGreatDoor.waterfallLinear
namespace Go.Proofs.YtokmkopihhnggaaGreatDoor
theorem waterfallLinear_holds : Rows.WaterfallLinearCardSaid :=
 Claim7.holds_tied_plain_at .later [] _ _ _ _ waterfallLinear.said (fun _ h => by cases h) waterfallLinear.s6 (fun _ h => by cases h) waterfallLinear_row_tie rfl ⟨rfl, rfl⟩ waterfallLinear.s7 rfl waterfallLinear.plain waterfallLinear.s4
#print axioms waterfallLinear_holds
end Go.Proofs.YtokmkopihhnggaaGreatDoor
