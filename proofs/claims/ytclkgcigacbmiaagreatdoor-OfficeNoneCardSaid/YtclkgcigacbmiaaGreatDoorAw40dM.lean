/- The clearing of a group with one claim. -/
import Derived.Test.YtclkgcigacbmiaaGreatDoorAw40hM
set_option linter.unusedVariables false
set_option linter.unusedSimpArgs false
namespace Go.Proofs.YtclkgcigacbmiaaGreatDoor
open Go Go.RowKit Go.Proofs.Tryz
def xC:List A1:=[.agg [.lit (.int .i64 (1)),.sh 4 8 [.lit (.slice none 0 0),.lit (.bool false),.lit (.string ⟨#[]⟩),.lit (.string ⟨#[]⟩),.lit (.slice none 0 0),.lit (.bool false),.lit (.string ⟨#[]⟩),.lit (.string ⟨#[]⟩),.sh 4 1 [.lit (.int .i64 (0)),.lit (.bool false),.lit (.string ⟨#[60]⟩),.lit (.string ⟨#[]⟩)],.lit (.bool false),.lit (.string ⟨#[60]⟩),.lit (.string ⟨#[]⟩),.lit (.slice none 0 0),.lit (.bool false),.lit (.string ⟨#[]⟩),.lit (.string ⟨#[]⟩),.lit (.slice none 0 0),.lit (.bool false),.lit (.string ⟨#[]⟩),.lit (.string ⟨#[]⟩),.lit (.slice none 0 0),.lit (.bool false),.lit (.string ⟨#[]⟩),.lit (.string ⟨#[]⟩),.lit (.slice none 0 0),.lit (.bool false),.lit (.string ⟨#[]⟩),.lit (.string ⟨#[]⟩),.lit (.slice none 0 0),.lit (.bool false),.lit (.string ⟨#[]⟩),.lit (.string ⟨#[]⟩)],.lit (.slice none 0 0),.lit (.bool false),.lit (.string ⟨#[60]⟩),.lit (.string ⟨#[]⟩)],.agg [.lit (.bool false),.lit (.string ⟨#[]⟩),.lit (.string ⟨#[]⟩)]]
def xD:AV:= .tup [.agg [.lit (.bool false),.lit (.string ⟨#[60]⟩),.lit (.string ⟨#[]⟩)],.one (.lit (.bool true))]
theorem Bh:ck prog K40 (cR prog K40 gD 100000 60) 199 xC=some xD:=by kernel_rfl
theorem nx4:ACallG GO prog 199 xC xD:=cq K40 gD 100000 60 (by kernel_rfl) (by kernel_rfl) Bh
def tbn:List (FuncId×List A1×AV):=[(199,xC,xD)]
theorem xE:∀p∈tbn,ACallG GO prog p.1 p.2.1 p.2.2:=by
 intro p hp;simp only [tbn,List.mem_cons,List.not_mem_nil,or_false] at hp;subst hp;exact nx4
def vh:CK prog:=KO uk (fun _=>false) (qo tbn) (iN tbn xE)
def vR:HT prog vh:=gD.to rfl
def xF:List A1:=[.agg [.sh 5 1 [.lit (.bool false),.lit (.string ⟨#[60]⟩),.lit (.string ⟨#[]⟩),.sh 5 1 [.lit (.int .i64 (-1)),.lit (.int .i64 (2)),.lit (.bool false),.lit (.string ⟨#[60]⟩),.lit (.string ⟨#[]⟩)],.lit (.slice none 0 0)],.lit (.slice none 0 0)]]
def xG:AV:= .tup [.agg [.sh 3 1 [.lit (.bool false),.lit (.string ⟨#[60]⟩),.lit (.string ⟨#[]⟩)],.sh 1 1 [.sh 3 1 [.lit (.bool false),.lit (.string ⟨#[60]⟩),.lit (.string ⟨#[]⟩)]],.sh 1 1 [.sh 3 1 [.lit (.bool false),.lit (.string ⟨#[60]⟩),.lit (.string ⟨#[]⟩)]],.sh 1 1 [.sh 3 1 [.lit (.bool false),.lit (.string ⟨#[]⟩),.lit (.string ⟨#[]⟩)]],.sh 1 1 [.sh 3 1 [.lit (.bool false),.lit (.string ⟨#[60]⟩),.lit (.string ⟨#[]⟩)]],.sh 3 1 [.lit (.bool false),.lit (.string ⟨#[]⟩),.lit (.string ⟨#[]⟩)],.sh 3 1 [.lit (.bool false),.lit (.string ⟨#[]⟩),.lit (.string ⟨#[]⟩)],.sh 1 1 [.lit (.bool true)]],.one (.lit (.int .i64 (0)))]
theorem Bi:ck prog vh (cR prog vh vR 100000 60) 16 xF=some xG:=by kernel_rfl
theorem so4:ACallG GO prog 16 xF xG:=cq vh vR 100000 60 (by kernel_rfl) (by kernel_rfl) Bi
end Go.Proofs.YtclkgcigacbmiaaGreatDoor
