/- DisputeOrder answers true for every input, and leaves its arguments as they were. The tables of unicode/utf8 that the row lists are tied to the text by the given tie; the walk does not look into them. No further condition. -/
import Derived.Test.YtinaeglgfomlaaaGreatDoorCards
import Derived.Test.YtinaeglgfomlaaaGreatDoorTie
import Derived.Test.YtinaeglgfomlaaaGreatDoorDc3M
import Derived.Test.YtinaeglgfomlaaaGreatDoorLawM
import Derived.OpenShut
import Derived.Deep.DeepHandedRow
set_option linter.unusedVariables false
set_option linter.unusedSimpArgs false
set_option linter.defProp false
set_option linter.unnecessarySimpa false
/- DisputeOrder answers true for every input, and leaves its arguments as they were. The tables of unicode/utf8 that the row lists are tied to the text by the given tie; the walk does not look into them. No further condition. -/
namespace Go.Proofs.YtinaeglgfomlaaaGreatDoor.disputeOrder
open Go.RowKit Go.ChangeShapes Go.WideShapes Go.ChangeAt Go.Proofs.YtinaeglgfomlaaaGreatDoor
theorem own : ownKnob Tryz.prog.godebug = none := by kernel_rfl
theorem laidOut : laidOutB Tryz.prog = true := by kernel_rfl
def lay (cs : Array Value) : Obj → Obj
  | .cells _ t frozen => .cells cs t frozen
  | o => o
noncomputable def laidWorld (os : Os) : World :=
  { World.holding Tryz.prog os ⟨#[], #[], []⟩ with heap := ((World.holding Tryz.prog os ⟨#[], #[], []⟩).heap.modify 1 (lay ((Go.Pinned.utf8FirstZ.map fun n : Nat => Value.int .u8 (n : Int)).toArray))).modify 2 (lay #[.int .u8 128, .int .u8 191, .int .u8 160, .int .u8 191, .int .u8 128, .int .u8 159, .int .u8 144, .int .u8 191, .int .u8 128, .int .u8 143, .int .u8 0, .int .u8 0, .int .u8 0, .int .u8 0, .int .u8 0, .int .u8 0, .int .u8 0, .int .u8 0, .int .u8 0, .int .u8 0, .int .u8 0, .int .u8 0, .int .u8 0, .int .u8 0, .int .u8 0, .int .u8 0, .int .u8 0, .int .u8 0, .int .u8 0, .int .u8 0, .int .u8 0, .int .u8 0]) }
theorem laid_met (os : Os) : laidMet Tryz.prog Rows.disputeOrderRow.laid ((laidWorld os).forCall (fun _ _ => 0) ⟨#[], #[.int .u8 0, .slice none 0 0, .slice none 0 0, .slice none 0 0, .int .u16 0, .slice none 0 0], []⟩).memory :=
  laidMet_of_run' 8 (by kernel_rfl) (by kernel_rfl)
theorem reads (os : Os) {H : Type} (enc : TypeId × Value → H) : ∃ places, DataW.whole enc Tryz.prog ((laidWorld os).forCall (fun _ _ => 0) ⟨#[], #[.int .u8 0, .slice none 0 0, .slice none 0 0, .slice none 0 0, .int .u16 0, .slice none 0 0], []⟩).memory Tryz.f6.params.toList Rows.disputeOrderSpec.vars false #[.int .u8 0, .slice none 0 0, .slice none 0 0, .slice none 0 0, .int .u16 0, .slice none 0 0].toList 8 = some ([.lit (.int .u8 0), .nil, .nil, .nil, .lit (.int .u16 0), .nil], [], places) :=
  ⟨[], by kernel_rfl⟩
set_option maxRecDepth 100000 in
theorem contract (H : Type) (enc : TypeId × Value → H) (W : World) (base : Nat) (args : Array Value) (ds gs : List (DataW H)) (before : List MemPlace)
    (hval0 : ∀ (j : Nat) t v, Tryz.f6.params[j]? = some t → args[j]? = some v → Value.okWide Tryz.prog W .any base t v)
    (hW : DataW.Whole enc Tryz.prog Tryz.f6.params.toList Rows.disputeOrderSpec.vars false W args.toList ds gs before) :
    Calls Tryz.prog 6 args W fun e W' => ∃ v, e = .returned v ∧ Rows.disputeOrderSpec.post enc Tryz.prog Tryz.f6 false true false false W args v W' := by
  have hval : ∀ (j : Nat) t v, Tryz.f6.params[j]? = some t → args[j]? = some v → Value.okWide Tryz.prog W .any base t v := hval0
  have hW' := hW
  obtain ⟨p, q, hA0, hV, rfl, hfz, hnd⟩ := hW
  have hA : DataW.TrodAll enc Tryz.prog W 0 (fun _ => true) true Tryz.f6.params.toList args.toList ds p := hA0
  rw [Tryz.params6] at hA hval
  obtain ⟨v0, vs0, d0, ds0, p0, q0, hargs, rfl, rfl, h0, r0⟩ := trodAll_cons hA
  obtain ⟨v1, vs1, d1, ds1, p1, q1, rfl, rfl, rfl, h1, r1⟩ := trodAll_cons r0
  obtain ⟨v2, vs2, d2, ds2, p2, q2, rfl, rfl, rfl, h2, r2⟩ := trodAll_cons r1
  obtain ⟨v3, vs3, d3, ds3, p3, q3, rfl, rfl, rfl, h3, r3⟩ := trodAll_cons r2
  obtain ⟨v4, vs4, d4, ds4, p4, q4, rfl, rfl, rfl, h4, r4⟩ := trodAll_cons r3
  obtain ⟨v5, vs5, d5, ds5, p5, q5, rfl, rfl, rfl, h5, r5⟩ := trodAll_cons r4
  obtain ⟨rfl, rfl, rfl⟩ := trodAll_nil r5
  obtain rfl : args = #[v0, v1, v2, v3, v4, v5] := by cases args; simp_all
  obtain ⟨rfl, rfl⟩ := trodVars_none hV
  obtain ⟨l0, o0⟩ := open_int_arg Tryz.underlying5 (hval 0 5 v0 rfl rfl) (opensC_u8) h0
  obtain ⟨l1, o1⟩ := open_slice_arg Tryz.underlying56 (hval 1 56 v1 rfl rfl) (opensC_u16s) h1
  obtain ⟨l2, o2⟩ := open_slice_arg Tryz.underlying22 (hval 2 22 v2 rfl rfl) (opensC_N4s) h2
  obtain ⟨l3, o3⟩ := open_slice_arg Tryz.underlying22 (hval 3 22 v3 rfl rfl) (opensC_N4s) h3
  obtain ⟨l4, o4⟩ := open_int_arg Tryz.underlying57 (hval 4 57 v4 rfl rfl) (opensC_u16) h4
  obtain ⟨l5, o5⟩ := open_slice_arg Tryz.underlying74 (hval 5 74 v5 rfl rfl) (opensC_y8s) h5
  clear hA0 hval0
  refine (lDO_walk v0 v1 v2 v3 v4 v5 l0 l1 l2 l3 l4 l5 W o0 o1 o2 o3 o4 o5).mono fun e W' ⟨he, hb⟩ => ?_
  subst he
  exact ⟨_, rfl, law_post laidOut (by kernel_rfl) rfl hW' rfl rfl rfl (by kernel_rfl) Tryz.underlying4 hb⟩
set_option maxRecDepth 100000 in
theorem lifted (os : Os) (started : os.Started) (H : Type) (enc : TypeId × Value → H) (F : Stop.Interp) :
    ReturnsInHanded {} Tryz.checked os 6 .any ((OpenSpec.ofChange Rows.disputeOrderSpec).preRow enc Tryz.prog Tryz.f6 Rows.disputeOrderRow.domain false Rows.disputeOrderRow.laid) (((OpenSpec.ofChange Rows.disputeOrderSpec).at F).post enc Tryz.prog Tryz.f6 false true false false) := by
  obtain ⟨places, hx⟩ := reads os enc
  refine returnsInHanded_of_row (C := Tryz.checked) (s := OpenSpec.ofChange Rows.disputeOrderSpec) own started (by kernel_rfl) Tryz.func6
    (witness_row_at (enc := enc) (C := Tryz.checked) false (laidWorld os) #[.int .u8 0, .slice none 0 0, .slice none 0 0, .slice none 0 0, .int .u16 0, .slice none 0 0] rfl (by kernel_rfl) (by kernel_rfl) (by kernel_rfl)
      (OpenSpec.preRow_of_cond 8 hx (by kernel_rfl) (fun k hk => by cases hk) (by kernel_rfl) (laid_met os))) ?_
  intro W base args ds gs before hval hW _ _ _ _ _ _
  exact contract H enc W base args ds gs before hval hW
theorem said : Rows.DisputeOrderSaid :=
  OpenClaim.holds_of_cond 6 Tryz.f6 rfl rfl rfl rfl rfl rfl rfl ⟨rfl, rfl, rfl, rfl, rfl⟩ rfl rfl rfl rfl rfl (by kernel_rfl) Tryz.func6 (by kernel_rfl)
    (of_decide_eq_true (by kernel_rfl)) (by unfold Func.isWrapper; first | (rw [if_pos (by decide +kernel)]; kernel_rfl) | (rw [if_neg (by decide +kernel)]; exact ⟨rfl, rfl⟩))
    (fun os started H enc _ F => by rw [OpenClaim.pre_eq_preRow]; exact lifted os started H enc F)
theorem plain (f : FuncId) (fn : Func) (hf : Tryz.pinned.checked.prog.funcNamed "insolvency/insolvencylaw22.DisputeOrder" = some f) (hfn : Tryz.pinned.checked.prog.funcs[f]? = some fn) :
    false = Tryz.pinned.checked.prog.looks [] ∧ ∀ (j : Nat) t, fn.params[j]? = some t → Tryz.pinned.checked.prog.wantsStandIn t = false := by
  obtain rfl : f = 6 := Option.some.inj ((show Tryz.prog.funcNamed "insolvency/insolvencylaw22.DisputeOrder" = some 6 by kernel_rfl).symm.trans hf) |>.symm
  obtain rfl : fn = Tryz.f6 := (Option.some.inj (Tryz.func6.symm.trans hfn)).symm
  refine ⟨by kernel_rfl, fun j t ht => ?_⟩
  rw [Tryz.params6] at ht
  have hm := Array.mem_of_getElem? ht
  have : t = 5 ∨ t = 56 ∨ t = 22 ∨ t = 22 ∨ t = 57 ∨ t = 74 := by simpa using hm
  rcases this with rfl | rfl | rfl | rfl | rfl | rfl
  · exact (show Tryz.prog.wantsStandIn 5 = false by kernel_rfl)
  · exact (show Tryz.prog.wantsStandIn 56 = false by kernel_rfl)
  · exact (show Tryz.prog.wantsStandIn 22 = false by kernel_rfl)
  · exact (show Tryz.prog.wantsStandIn 22 = false by kernel_rfl)
  · exact (show Tryz.prog.wantsStandIn 57 = false by kernel_rfl)
  exact (show Tryz.prog.wantsStandIn 74 = false by kernel_rfl)
end Go.Proofs.YtinaeglgfomlaaaGreatDoor.disputeOrder
namespace Go.Proofs.YtinaeglgfomlaaaGreatDoor
theorem disputeOrder_holds : Rows.DisputeOrderCardSaid :=
  Claim7.holds_tied_plain_at .later [] _ _ _ _ disputeOrder.said (fun _ h => by cases h) (by kernel_rfl) (fun _ h => by cases h) disputeOrder_row_tie rfl ⟨rfl, rfl⟩ (by kernel_rfl) rfl disputeOrder.plain (by kernel_rfl)
#print axioms disputeOrder_holds
end Go.Proofs.YtinaeglgfomlaaaGreatDoor
