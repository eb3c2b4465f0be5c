/- The reference: CheckEstate; walked by the abstract machine. -/
import Derived.Test.YtcgpghifhehlhaaGreatDoorWf6M
set_option linter.unusedVariables false
set_option linter.unusedSimpArgs false
namespace Go.Proofs.YtcgpghifhehlhaaGreatDoor
open Go Go.RowKit





theorem fa {d:Array Int} {x:Int}:∀m,m<=d.size->(∃j,j<m/\d[j]! =x)->x∈Lib.compactUpTo d m
 |0,_,⟨j,h,_⟩=>by omega
 |m+1,hm,⟨j,hj,hx⟩=>by
  rw [Lib.compactUpTo_succ,List.mem_append];by_cases hjm:j<m
  ·exact .inl (fa m (by omega) ⟨j,hjm,hx⟩)
  obtain rfl:j=m:=by omega
  cases hk:Lib.keeps d j with
  |true=>right;simp [hx]
  |false=>
   left;have h2:¬(j=0∨d[j]!≠d[j-1]!):=by simpa [Lib.keeps] using hk
   have h3:j≠0:=fun h=>h2 (.inl h)
   have h4:d[j]! =d[j-1]! :=Classical.byContradiction fun h=>h2 (.inr h)
   exact fa j (by omega) ⟨j-1,by omega,by rw [←h4];exact hx⟩
theorem mem_iff {a:cw} {i:Int}:i∈mem a↔i∈dI a.flatten:=by
 refine ⟨se,fun h=>?_⟩;have h1:i∈Gb (dI a.flatten):=by simpa [Gb] using h
 obtain ⟨j,hj,hx⟩:=List.getElem_of_mem h1;exact fa _ (by simp) ⟨j,hj,by rw [getElem!_pos _ j (by simpa using hj)];simpa using hx⟩

end Go.Proofs.YtcgpghifhehlhaaGreatDoor
