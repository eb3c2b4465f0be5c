/- The example of the chapter on the office: it answers true. -/
import Derived.Test.YtclkgcigacbmiaaGreatDoorAw40aM
import Derived.Test.YtclkgcigacbmiaaGreatDoorAw40bM
set_option linter.unusedVariables false
set_option linter.unusedSimpArgs false
namespace Go.Proofs.YtclkgcigacbmiaaGreatDoor
open Go Go.RowKit Go.Proofs.Tryz
def vj:List (FuncId×List A1×AV):=[(27,xq,xr),(27,xu,xv),(27,xI,xJ),(28,xw,xx),(28,xy,xz),(28,xA,xB)]
theorem vk:∀p∈vj,ACallG GO prog p.1 p.2.1 p.2.2:=by
 intro p hp;simp only [vj,List.mem_cons,List.not_mem_nil,or_false] at hp;rcases hp with rfl|rfl|rfl|rfl|rfl|rfl
 ·exact ap1
 ·exact ap2
 ·exact ap3
 ·exact en1
 ·exact en2
 exact en3
def vl:CK prog:=KO uk (fun _=>false) (qo vj) (iN vj vk)
def vT:HT prog vl:=gD.to rfl
theorem za:ck prog vl (cR prog vl vT 100000 60) 12 []=some (one (.bool true)):=by kernel_rfl
theorem qq:ACallG GO prog 12 [] (one (.bool true)):=cq vl vT 100000 60 (by kernel_rfl) rfl za
end Go.Proofs.YtclkgcigacbmiaaGreatDoor
