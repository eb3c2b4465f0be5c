/- The third line of the script, as the engine takes it. -/
import Derived.Test.YtclkgcigacbmiaaGreatDoorAw40dM
import Derived.Test.YtclkgcigacbmiaaGreatDoorAw40cM
set_option linter.unusedVariables false
set_option linter.unusedSimpArgs false
namespace Go.Proofs.YtclkgcigacbmiaaGreatDoor
open Go Go.RowKit Go.Proofs.Tryz
def tbs:List (FuncId×List A1×AV):=[(16,xF,xG)]
theorem xH:∀p∈tbs,ACallG GO prog p.1 p.2.1 p.2.2:=by
 intro p hp;simp only [tbs,List.mem_cons,List.not_mem_nil,or_false] at hp;subst hp;exact so4
def vi:CK prog:=KO vQ yX (qo tbs) (iN tbs xH)
def vS:HT prog vi:=yZ.to rfl
def xI:List A1:=[.agg [.sh 5 1 [.lit (.bool false),.lit (.string ⟨#[60]⟩),.lit (.string ⟨#[]⟩),.sh 5 1 [.lit (.int .i64 (-1)),.lit (.int .i64 (2)),.lit (.bool false),.lit (.string ⟨#[60]⟩),.lit (.string ⟨#[]⟩)],.lit (.slice none 0 0)],.lit (.slice none 0 0),.sh 3 1 [.lit (.bool false),.lit (.string ⟨#[]⟩),.lit (.string ⟨#[]⟩)],.lit (.slice none 0 0),.sh 4 1 [.lit (.int .i64 (-1)),.lit (.int .i64 (0)),.lit (.int .i64 (0)),.lit (.int .i64 (0))],.lit (.int .i64 (0)),.lit (.bool false)],.agg [.lit (.int .i64 (8)),.lit (.int .i64 (0)),.lit (.int .i64 (0)),.lit (.int .i64 (0)),.lit (.int .i64 (0)),.lit (.int .i64 (0)),.lit (.bool false),.lit (.string ⟨#[]⟩),.lit (.string ⟨#[]⟩),.lit (.bool false),.lit (.string ⟨#[]⟩),.lit (.string ⟨#[]⟩),.lit (.slice none 0 0),.lit (.slice none 0 0)]]
def xJ:AV:= .tup [.agg [.sh 5 1 [.lit (.bool false),.lit (.string ⟨#[60]⟩),.lit (.string ⟨#[]⟩),.sh 5 1 [.lit (.int .i64 (-1)),.lit (.int .i64 (2)),.lit (.bool false),.lit (.string ⟨#[60]⟩),.lit (.string ⟨#[]⟩)],.lit (.slice none 0 0)],.lit (.slice none 0 0),.sh 3 1 [.lit (.bool false),.lit (.string ⟨#[]⟩),.lit (.string ⟨#[]⟩)],.lit (.slice none 0 0),.sh 4 1 [.lit (.int .i64 (-1)),.lit (.int .i64 (0)),.lit (.int .i64 (0)),.lit (.int .i64 (6000))],.lit (.int .i64 (1)),.lit (.bool false)],.one (.sh 4 1 [.lit (.int .i64 (-1)),.lit (.int .i64 (0)),.lit (.int .i64 (0)),.lit (.int .i64 (6000))]),.one (.lit (.int .i64 (0)))]
theorem Ce:ck prog vi (cR prog vi vS 100000 60) 27 xI=some xJ:=by kernel_rfl
theorem ap3:ACallG GO prog 27 xI xJ:=cq vi vS 100000 60 (by kernel_rfl) (by kernel_rfl) Ce
end Go.Proofs.YtclkgcigacbmiaaGreatDoor
