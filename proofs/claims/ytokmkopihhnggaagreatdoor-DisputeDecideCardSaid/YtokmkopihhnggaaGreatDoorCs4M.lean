/- Classes as arguments of a law, opened; ClassSum's own function. -/
import Derived.Test.YtokmkopihhnggaaGreatDoorPl3M
import Derived.Test.YtokmkopihhnggaaGreatDoorBl5M
import Derived.Test.YtokmkopihhnggaaGreatDoorOw3M
import Derived.Test.YtokmkopihhnggaaGreatDoorDi1M
import Derived.Test.YtokmkopihhnggaaGreatDoorSplM
import Derived.Test.YtokmkopihhnggaaGreatDoorFewM
set_option linter.unusedVariables false
set_option linter.unusedSimpArgs false
set_option linter.unusedSectionVars false
namespace Go.Proofs.YtokmkopihhnggaaGreatDoor
open Go Go.RowKit Go.ChangeShapes Go.WideShapes Go.ChangeAt

end Go.Proofs.YtokmkopihhnggaaGreatDoor
namespace Go.Proofs.YtokmkopihhnggaaGreatDoor
open Go Go.RowKit
section
variable {P : Program} {e : En} {k0 : Kx} {N : Nat} {st : St} {a : Act} {w : World} {Q : Exit → St → Prop} {c : Code}
end
def okD (d:GDisp):Prop:=1<=d.opts.length/\d.opts.length<=3/\∀y∈d.opts,opG y
theorem LE:∀(l:List GEst) (i:Nat) (out:List Leg),(∀e∈l,e.claims.length<=1000000)->(spE l i out).length<=out.length+1000000*l.length
 |[],_,_,_=>by simp [spE]
 |e::l,i,out,h=>by
  have h1:=LE l (i+1) (spC i out e.claims.length) fun x hx=>h x (List.mem_cons_of_mem _ hx)
  have h2:=h e (by simp);rw [JF] at h1;simp only [spE,List.length_cons];omega

noncomputable def clR (r:GRat):GRat:=enc (qOf r)
noncomputable def clC (c:GClaim):GClaim:=⟨c.holder,c.rank,clR c.amount⟩
noncomputable def clP (p:GPart):GPart:=⟨p.claim,p.capped,clR p.cap⟩
noncomputable def clT (t:List GPart):List GPart:=t.map clP
noncomputable def clA (a:bR):bR:=a.map clT
noncomputable def clE (e:GEst):GEst:=⟨clR e.cash,e.claims.map clC,e.agrs.map clA⟩
noncomputable def clD (d:GDebt):GDebt:=⟨clR d.whole,d.legs⟩
noncomputable def clG (g:GGrp):GGrp:=⟨g.ests.map clE,g.debts.map clD⟩
noncomputable def clO (o:GOpt):GOpt:=⟨clR o.amount,o.rank⟩
noncomputable def nt (d:GDisp):GDisp:=⟨d.est,d.cl,d.opts.map clO⟩
theorem Kt {Pr:GEst->Prop} {es:List GEst} (h:∀e∈es,Pr e) (j:Nat) (x:GEst) (hx:j<es.length->Pr x):∀e∈es.set j x,Pr e:=fun e he=>by
 obtain ⟨i,hi,rfl⟩:=List.getElem_of_mem he;rw [List.getElem_set];split
 ·rename_i hji;subst hji;exact hx (by simpa using hi)
 exact h _ (List.getElem_mem _)
noncomputable def opC (c:GClaim) (o:GOpt):GClaim:=⟨c.holder,o.rank,clR o.amount⟩
noncomputable def stC (e:GEst) (k:Nat) (o:GOpt):GEst:=⟨e.cash,e.claims.set k (opC (e.claims.getD k default) o),e.agrs⟩
noncomputable def stE (es:List GEst) (i k:Nat) (o:GOpt):List GEst:=es.set i (stC (es.getD i gr) k o)
noncomputable def stL (es:List GEst) (d:GDisp) (c:Int):List GEst:=stE es d.est.toNat d.cl.toNat (d.opts.getD c.toNat default)
noncomputable def dcG (dc:Int) (g:GGrp) (l:List GDisp) (i o:Int):GGrp×List GDisp×Int:=
 if dc=0 then (if 0<=i/\i<l.length then (if 0<=o/\o<(l.getD i.toNat default).opts.length then (⟨stL (clG g).ests (l.getD i.toNat default) o,(clG g).debts⟩,(l.eraseIdx i.toNat).map nt,0) else (⟨[],[]⟩,[],41)) else (⟨[],[]⟩,[],1)) else (⟨[],[]⟩,[],dc)
theorem Ni (es:List GEst) (i k:Nat) (o:GOpt):(stE es i k o).length=es.length:=List.length_set ..
theorem Nj (es:List GEst) (i k:Nat) (o:GOpt):stE es i k o=es.set i (stC (es.getD i gr) k o):=rfl
def shp (es:List GEst):List (List Int):=es.map fun e=>e.claims.map (·.holder)
theorem NH {es fs:List GEst} (h:shp es=shp fs) (i:Nat):(es.getD i gr).claims.map (·.holder)=(fs.getD i gr).claims.map (·.holder):=by
 have h1:(shp es).getD i []=(shp fs).getD i []:=by rw [h]
 have key:∀l:List GEst,(shp l).getD i []=(l.getD i gr).claims.map (·.holder):=fun l=>by
  simp only [shp,List.getD_eq_getElem?_getD,List.getElem?_map];cases l[i]? <;>rfl
 rwa [key,key] at h1
theorem MG {es fs:List GEst} (h:shp es=shp fs) (i:Nat):(es.getD i gr).claims.length=(fs.getD i gr).claims.length:=by
 have:=congrArg List.length (NH h i);simpa using this
theorem MH {g:GGrp} {i c:Int} (h:exB g i c=true):0<=i/\i<g.ests.length/\0<=c/\c<(g.ests.getD i.toNat gr).claims.length:=by
 unfold exB at h;split at h
 ·split at h
  ·split at h
   ·exact ⟨‹_›,‹_›,‹_›,by simpa using h⟩
   cases h
  cases h
 cases h
def fits (l:List GDisp) (c:List Int):Prop:=c.length=l.length/\∀i (h:i<l.length) (h':i<c.length),0<=c[i]/\c[i]<(l[i].opts.length:Int)
end Go.Proofs.YtokmkopihhnggaaGreatDoor
