/- OfficeNone: closed facts of its row. -/
import Derived.Test.YtclkgcigacbmiaaGreatDoorJfM
import Derived.Test.YtclkgcigacbmiaaGreatDoorCards
import Derived.Test.YtclkgcigacbmiaaGreatDoorWf6M
set_option linter.unusedVariables false
set_option linter.unusedSimpArgs false
/- OfficeNone: closed facts of its row. -/
namespace Go.Proofs.YtclkgcigacbmiaaGreatDoor.officeNone
open Go.RowKit Go.ChangeShapes Go.WideShapes Go.ChangeAt Go.Proofs.YtclkgcigacbmiaaGreatDoor Go.Proofs.Tryz
theorem c1:jf1 Tryz.pinned.checked.prog f3 (OpenSpec.ofChange Rows.officeNoneSpec).bare Rows.officeNoneRow=true:=by kernel_rfl
theorem c1b:jf2 Tryz.pinned.checked.prog (OpenSpec.ofChange Rows.officeNoneSpec).bare Rows.officeNoneRow=true:=by kernel_rfl
theorem c1c:jf3 Tryz.pinned.checked.prog Rows.officeNoneRow=true:=by kernel_rfl
theorem c2:(Rows.officeNoneRow.inPlace==Tryz.pinned.checked.prog.inPlace 3)=true:=by kernel_rfl
theorem c3:(Rows.officeNoneRow.unfollowed==Tryz.pinned.checked.prog.unfollowed 3)=true:=by kernel_rfl
theorem c4:(Rows.officeNoneRow.recurses==Tryz.pinned.checked.prog.recurses 3)=true:=by kernel_rfl
theorem c5:(Rows.officeNoneRow.named==Tryz.pinned.checked.prog.varsNamed 3)=true:=by kernel_rfl
theorem c6:jf6 Tryz.pinned.checked.prog f3 (OpenSpec.ofChange Rows.officeNoneSpec).bare Rows.officeNoneRow=true:=by kernel_rfl
theorem c7:(Rows.officeNoneRow.plainKeys==Tryz.pinned.checked.prog.plainKeys)=true:=by kernel_rfl
theorem c8:jf8 Tryz.pinned.checked.prog Rows.officeNoneRow=true:=by kernel_rfl
theorem c9:Tryz.pinned.checked.prog.mayEnter=true:=by kernel_rfl
theorem c10:(Rows.officeNoneRow.lifted==Tryz.pinned.checked.prog.liftsFinal)=true:=by kernel_rfl
theorem c11:xK Tryz.pinned.checked.prog f3 (OpenSpec.ofChange Rows.officeNoneSpec).bare Rows.officeNoneRow=true:=by kernel_rfl
theorem c12:xL Tryz.pinned.checked.prog f3 (OpenSpec.ofChange Rows.officeNoneSpec).bare Rows.officeNoneRow=true:=by kernel_rfl
theorem closed:joinedFacts Tryz.pinned.checked.prog 3 f3 (OpenSpec.ofChange Rows.officeNoneSpec).bare Rows.officeNoneRow=true:=zg c1 c1b c1c c2 c3 c4 c5 c6 c7 c8 c9 c10 c11 c12
theorem s1:Tryz.pinned.checked.prog.funcNamed Rows.officeNoneRow.func=some 3:=by kernel_rfl
theorem s2:f3.isInstance Tryz.pinned.checked.prog Rows.officeNoneRow.origin Rows.officeNoneRow.targs:=of_decide_eq_true (by kernel_rfl)
theorem s3:f3.isWrapper Tryz.pinned.checked.prog Rows.officeNoneRow.wrapper Rows.officeNoneRow.mainSum:=(by unfold Func.isWrapper;first|(rw [if_pos (by decide+kernel)];kernel_rfl)|(rw [if_neg (by decide+kernel)];exact ⟨rfl,rfl⟩))
end Go.Proofs.YtclkgcigacbmiaaGreatDoor.officeNone
