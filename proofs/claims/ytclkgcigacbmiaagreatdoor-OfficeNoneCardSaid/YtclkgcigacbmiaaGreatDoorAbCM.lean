/- The abstract machine: a region that opens with two moves and an array built in place. No program in sight. -/
import Derived.Test.YtclkgcigacbmiaaGreatDoorAbBM
set_option linter.unusedVariables false
set_option linter.unusedSimpArgs false
set_option linter.unusedSectionVars false
namespace Go.Proofs.YtclkgcigacbmiaaGreatDoor
open Go Go.RowKit
section
variable {P : Program} {e : En} {k0 : Kx} {N : Nat} {I : List Nat} {st : St} {Q : Exit → St → Prop} {ops : Array Oper} {o : Oper} {a : Act} {w : World} {σ : Nat → Value}
theorem yI {t E:TypeId} {n sz:Nat} {parts:Array (Nat×Operand)} {zs:List Value} {q:Prop} {r:List C} (ht:∀t,ak (kx e st.H st.nx σ w) (a.tmps.getD t undef) (st.tm t)) (hop:o.op= .build t parts) (hz:zrT P t=some zs) (ha:arT P t=some (n,E,sz))
  (hf:cE (fun i=>some (i*sz,sz)) (zs.map .lit) (parts.toList.map fun q=>(q.1,ev st q.2))=some (q,r)) (hq:q):Yl P o a w (kx e st.H st.nx σ w) (.val (.agg r)):=by
 obtain ⟨z,h1,h2,h3⟩:=fa hz;obtain ⟨k1,k2⟩:=cX ht parts.toList;have hd0:denVs (kx e st.H st.nx σ w) z.cells.toList (zs.map .lit):=by rw [h1];exact bP _ _ h2
 obtain ⟨arr',g1,g2⟩:=e7 (place:=fun i=>some (i*sz,sz)) _ _ _ z.cells k1 k2 hd0 hf hq;obtain ⟨hu,i,hi,his⟩:=kz ha;subst his;refine ⟨.agg arr',fun w' _=>?_,⟨arr'.toList,by simp,g2⟩⟩;have g1':Instr.fill (fun j=>some (j*i.size,i.size)) z.cells ((parts.map fun q=>(q.1,a.eval q.2)).toList)=some arr':=by simpa using g1
 have hs:(sizeOf E).run P w'= .ok i.size w':=by simp [sizeOf,typeInfo,hi]
 simp only [execOp,hop,Sem.run_bind,Instr.build,h3 w',Result.andThen_ok,run_underlying hu,hs,g1',Sem.run_pure]
end
end Go.Proofs.YtclkgcigacbmiaaGreatDoor
