/- Demands and payments back: the builder of demands, Returns on both sides, payments back compared; walked by the abstract machine. -/
import Derived.Test.YtcgpghifhehlhaaGreatDoorJfM
import Derived.Test.YtcgpghifhehlhaaGreatDoorEqsM
import Derived.Test.YtcgpghifhehlhaaGreatDoorGu1M
import Derived.Test.YtcgpghifhehlhaaGreatDoorPl3M
set_option linter.unusedVariables false
set_option maxHeartbeats 4000000
set_option maxRecDepth 100000
set_option linter.unusedSimpArgs false
set_option linter.defProp false
namespace Go.Proofs.YtcgpghifhehlhaaGreatDoor
open Go Go.RowKit Go.Proofs.Tryz
def dn (d:Dem):List C:=[.lit (.int .i64 d.deb),.lit (.int .i64 d.par),.lit (.int .i64 d.gnd),.lit (.int .i64 d.cts)]
theorem AF (d:Dem):(dn d).length=4:=rfl
theorem aC (d:Dem):av (dn d)=true:=rfl
structure GRet where
 est:Int
 holder:Int
 rank:Int
 amount:GRat
deriving Inhabited
def dmF (q:N4):Dem:=⟨((q.a%4:Nat):Int),((q.b%5:Nat):Int),1+((q.c%2:Nat):Int),((q.d%700:Nat):Int)⟩
def dmL (l:List N4):List Dem:=(l.take 10).map dmF
theorem Dl (l:List N4):(dmL l).length<=10:=by unfold dmL;rw [List.length_map,List.length_take];omega
theorem Dm (l:List N4) (k:Nat) (h:k<l.length):ar dn ((l.take k).map dmF)++dn (dmF l[k])=ar dn ((l.take (k+1)).map dmF):=by
 rw [List.take_succ_eq_append_getElem h,List.map_append,aV];simp [aY,ej]
theorem Br (n m:Nat):((n:Nat):Int).tmod (m:Int)=((n%m:Nat):Int):=by norm_cast
def inR (c:Int):Bool:=decide (0<=c)&&decide (c<=1125899906842624)
def F4:=And.intro zS (And.intro tf8 (And.intro tf9 (And.intro pi (And.intro tu (And.intro xd (And.intro u4 (And.intro hZ (And.intro u5 (And.intro pj (And.intro u6 (u7)))))))))))
theorem F5:type_of%F4:=F4
theorem Cy (list:List N4) (hn:list.length<=9223372036854775807):ch prog 22 [.one (.sh 4 list.length (ar cN4 list))] (.val (.one (.sh 4 (dmL list).length (ar dn (dmL list))))):=by
 refine bF func22 rfl (by decide) (N:=49) rfl (by simp) (R:=[.tmp 2]) rfl fun en k0=>?_
 refine awN ?_;simp only [F5,seval];repeat refine ob ?_
 refine awN ?_;simp only [F5,seval];repeat refine ob ?_
 refine awN ?_;simp only [F5,seval];repeat refine ob ?_
 refine rS 3 47 88 4 (by decide) (by rfl) ?_;simp only [F5,seval];refine aQ [0,3,4] [47] ?_;try simp only [aq,F5,seval]
 repeat' first|apply awS|apply awB
 refine aB (fun n st=>∃k s nx,k<=list.length/\k<=10/\n=10-k/\st=⟨mkT [(0,.val (.one (.sh 4 list.length (ar cN4 list)))),(3,.val (.one (.own 47 s k 4))),(4,one (.int .i64 k))],mkH [(47,⟨s,88,4,k,ar dn ((list.take k).map dmF)⟩)],nx,0⟩) (10) ⟨0,_,_,by omega,by omega,by omega,rfl⟩ ?_;rintro n0 st ⟨k,s,nx0,hk,hk10,rfl,rfl⟩;by_cases hi0:(k:Int)<(list.length:Int)
 ·by_cases hi1:(k:Int)<(10:Int)
  ·refine awR [] [0,0,0,0,0,21,21,0] ?_;simp only [F5,seval,hi0,hi1];repeat refine ob ?_
   refine awT ?_;refine awK ?_;simp only [F5,seval];have hkl:k<list.length:=by omega
   have hat:=aO r7 list k hkl;have hsn:=Dm list k hkl;generalize list[k]=q at *
   simp only [dn,dmF] at hsn;have w1:((q.a:Nat):Int).tmod 4=((q.a%4:Nat):Int):=Br q.a 4;have w2:((q.b:Nat):Int).tmod 5=((q.b%5:Nat):Int):=Br q.b 5;have w3:((q.c:Nat):Int).tmod 2=((q.c%2:Nat):Int):=Br q.c 2;have w4:((q.d:Nat):Int).tmod 700=((q.d%700:Nat):Int):=Br q.d 700;refine awD (scT 0 31 (scq [62,64,67] .nil)) [0,0,0,0,0,0,0,0,0,0,0,0,0,0,0,0,0,0,0,0,0,0,0,0,0,0,0,0,0,0,0,0,0,0] ?_;simp only [F5,seval,hi0,hi1,hat,cN4,w1,w2,w3,w4];repeat refine ob ?_
   refine awN ?_;simp only [F5,seval,hi0];repeat refine ob ?_
   repeat refine ob ?_
   refine ⟨_,aH [0,3,4] [47],10-(k+1),by omega,k+1,?sa7,?na7,by omega,by omega,rfl,?st7⟩;case st7=>(simp only [F5,seval,hsn];first|rfl|(simp;done))
  refine awR [] [0,0,0,0,0,21,21,0] ?_;simp only [F5,seval,hi0,hi1];repeat refine ob ?_
  refine awF ?_;refine awQ ?_;simp only [F5,seval];refine awN ?_;simp only [F5,seval,hi0,hi1];repeat refine ob ?_
  have hdm:dmL list=(list.take k).map dmF:=by unfold dmL;rw [show k=10 by omega]
  have hdl:((list.take k).map dmF).length=k:=by rw [List.length_map,List.length_take];omega
  refine awX ?_;rw [hdm,hdl];simp only [F5,seval,ab aC]
 refine awR [] [0,0,0,0,0,21,21,0] ?_;simp only [F5,seval,hi0];repeat refine ob ?_
 refine awF ?_;refine awQ ?_;simp only [F5,seval];refine awN ?_;simp only [F5,seval,hi0];repeat refine ob ?_
 have hdm:dmL list=(list.take k).map dmF:=by unfold dmL;rw [List.take_of_length_le (show list.length<=10 by omega),List.take_of_length_le (show list.length<=k by omega)]
 have hdl:((list.take k).map dmF).length=k:=by rw [List.length_map,List.length_take];omega
 refine awX ?_;rw [hdm,hdl];simp only [F5,seval,ab aC]
theorem Cz (c:Int):ch prog 50 [.one (.lit (.int .i64 c))] (one (.bool (inR c))):=by
 refine bF func50 rfl (by decide) (N:=9) rfl (by simp) (R:=[.tmp 2]) rfl fun en k0=>?_
 refine awN ?_;simp only [zT,seval];repeat refine ob ?_
 by_cases h0:(0:Int)<=c
 ·by_cases h1:c<=(1125899906842624:Int)
  ·refine awR [] [0,0,0,13,13,0,0] ?_;simp only [zT,seval,h0,h1];repeat refine ob ?_
   refine awX ?_;simp only [zT,seval,inR];simp [*]
  refine awR [] [0,0,0,13,13,0,0] ?_;simp only [zT,seval,h0,h1];repeat refine ob ?_
  refine awX ?_;simp only [zT,seval,inR];simp [*]
 refine awR [] [0,0,0,13,13,0,0] ?_;simp only [zT,seval,h0];repeat refine ob ?_
 refine awX ?_;simp only [zT,seval,inR];simp [*]
end Go.Proofs.YtcgpghifhehlhaaGreatDoor
