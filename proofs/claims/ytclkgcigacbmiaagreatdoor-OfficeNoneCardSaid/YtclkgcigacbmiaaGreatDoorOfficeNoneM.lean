/- OfficeNone answers true for every input, and leaves its arguments as they were. The five tables that the row lists are tied to the text by the given tie; the walk leans on one of them, the powers of ten, as it is laid. No further condition. -/
import Derived.Test.YtclkgcigacbmiaaGreatDoorOfAM
import Derived.Test.YtclkgcigacbmiaaGreatDoorOfBM
import Derived.Test.YtclkgcigacbmiaaGreatDoorTie
set_option linter.unusedVariables false
set_option linter.unusedSimpArgs false
/- OfficeNone answers true for every input, and leaves its arguments Cf they were. The five tables that the row lists are tied to the text by the given tie; the walk leans on one of them, the jM of ten, Cf it is laid. No further condition. -/
namespace Go.Proofs.YtclkgcigacbmiaaGreatDoor.officeNone
open Go.RowKit Go.ChangeShapes Go.WideShapes Go.ChangeAt Go.Proofs.YtclkgcigacbmiaaGreatDoor Go.Proofs.Tryz
theorem s4a:Tryz.pinned.checked.prog.funcs.toList.any Func.goes=false:=by kernel_rfl
theorem s4:false=Rows.officeNoneRow.goesBy Tryz.pinned.checked.prog:=by
 show false=(Tryz.pinned.checked.prog.goesFrom Rows.officeNoneRow.func||false);unfold Program.goesFrom;rw [s1];simp [zf s4a]
theorem s5:false=Tryz.pinned.checked.prog.looks []:=by kernel_rfl
theorem s6:Rows.officeNoneRow.wfByText (OpenSpec.ofChange Rows.officeNoneSpec)=true:=by kernel_rfl
theorem s7:Tryz.pinned.checked.prog.mainIs=some (Rows.officeNoneCard.stood.harness.1,Rows.officeNoneCard.stood.harness.2.toList):=by kernel_rfl
theorem said:Rows.OfficeNoneSaid:=
 OpenClaim.holds_of_cond 3 f3 rfl rfl rfl rfl rfl rfl rfl ⟨rfl,rfl,rfl,rfl,rfl⟩ rfl rfl rfl rfl rfl s1 func3 closed
  s2 s3
  (fun os started H enc _ F=>by rw [OpenClaim.pre_eq_preRow];exact lifted os started H enc F)
theorem plain (f : FuncId) (fn : Func) (hf : Tryz.pinned.checked.prog.funcNamed "insolvency/insolvencylaw40.OfficeNone" = some f) (hfn : Tryz.pinned.checked.prog.funcs[f]? = some fn) :
  false=Tryz.pinned.checked.prog.looks []/\∀(j:Nat) t,fn.params[j]? =some t->Tryz.pinned.checked.prog.wantsStandIn t=false:=by
 obtain rfl : f = 3 := Option.some.inj ((show prog.funcNamed "insolvency/insolvencylaw40.OfficeNone" = some 3 from s1).symm.trans hf) |>.symm;obtain rfl:fn=f3:=(Option.some.inj (func3.symm.trans hfn)).symm;refine ⟨s5,fun j t ht=>?_⟩;rw [Tryz.params3] at ht;have hm:=Array.mem_of_getElem? ht;have:t=23:=by simpa using hm
 rcases this with rfl;exact (show prog.wantsStandIn 23=false by kernel_rfl)
end Go.Proofs.YtclkgcigacbmiaaGreatDoor.officeNone
namespace Go.Proofs.YtclkgcigacbmiaaGreatDoor
theorem officeNone_holds:Rows.OfficeNoneCardSaid:=
 Claim7.holds_tied_plain_at .later [] _ _ _ _ officeNone.said (fun _ h=>by cases h) officeNone.s6 (fun _ h=>by cases h) officeNone_row_tie rfl ⟨rfl,rfl⟩ officeNone.s7 rfl officeNone.plain officeNone.s4
#print axioms officeNone_holds
end Go.Proofs.YtclkgcigacbmiaaGreatDoor
