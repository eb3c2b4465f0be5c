/- Demands and payments back: the builder of demands, Returns on both sides, payments back compared; walked by the abstract machine. -/
import Derived.Test.YtcgpghifhehlhaaGreatDoorGu1M
import Derived.Test.YtcgpghifhehlhaaGreatDoorEqsM
import Derived.Test.YtcgpghifhehlhaaGreatDoorPl3M
import Derived.Test.YtcgpghifhehlhaaGreatDoorLawM
import Derived.Test.YtcgpghifhehlhaaGreatDoorAb7M
set_option linter.unusedVariables false
set_option maxHeartbeats 4000000
set_option maxRecDepth 100000
set_option linter.unusedSimpArgs false
set_option linter.defProp false
set_option linter.unusedSectionVars false
namespace Go.Proofs.YtcgpghifhehlhaaGreatDoor
open Go Go.RowKit Go.Proofs.Tryz
def dn (d:Dem):List C:=[.lit (.int .i64 d.deb),.lit (.int .i64 d.par),.lit (.int .i64 d.gnd),.lit (.int .i64 d.cts)]
theorem AF (d:Dem):(dn d).length=4:=rfl
theorem aC (d:Dem):av (dn d)=true:=rfl
structure GRet where
 est:Int
 holder:Int
 rank:Int
 amount:GRat
deriving Inhabited
def di (r:GRet):List C:=[.lit (.int .i64 r.est),.lit (.int .i64 r.holder),.lit (.int .i64 r.rank),.lit (.bool r.amount.neg),.lit (.string r.amount.num),.lit (.string r.amount.den)]
theorem CX (r:GRet):(di r).length=6:=rfl
theorem aL (r:GRet):av (di r)=true:=rfl
def dmF (q:N4):Dem:=⟨((q.a%4:Nat):Int),((q.b%5:Nat):Int),1+((q.c%2:Nat):Int),((q.d%700:Nat):Int)⟩
def dmL (l:List N4):List Dem:=(l.take 10).map dmF
theorem Dl (l:List N4):(dmL l).length<=10:=by unfold dmL;rw [List.length_map,List.length_take];omega
theorem Dm (l:List N4) (k:Nat) (h:k<l.length):ar dn ((l.take k).map dmF)++dn (dmF l[k])=ar dn ((l.take (k+1)).map dmF):=by
 rw [List.take_succ_eq_append_getElem h,List.map_append,aV];simp [aY,ej]
theorem Br (n m:Nat):((n:Nat):Int).tmod (m:Int)=((n%m:Nat):Int):=by norm_cast
def a8 (x:Int):List Int->Nat->Int
 |[],_=> -1
 |y::l,k=>if x=y then (k:Int) else a8 x l (k+1)
theorem o5 (x:Int):∀(l:List Int) (k:Nat),-1<=a8 x l k/\a8 x l k<(k:Int)+l.length
 |[],k=>by simp only [a8];simp;omega
 |y::l,k=>by
  have:=o5 x l (k+1);simp only [a8,List.length_cons];split<;>omega
def inR (c:Int):Bool:=decide (0<=c)&&decide (c<=1125899906842624)
def rtF (e h g c:Int):GRet:=⟨e,if h<0 then -1 else h,if g=1 then 2 else -1,enc (mkRat c 100)⟩
def rtS (ps:List Int):List Dem->List GRet->List GRet×Int
 |[],out=>(out,0)
 |d::l,out=>if a8 d.deb ps 0<0 then ([],14) else if a8 d.par ps 0=a8 d.deb ps 0 then ([],19) else if inR d.cts=true then rtS ps l (out++[rtF (a8 d.deb ps 0) (a8 d.par ps 0) d.gnd d.cts]) else ([],1)
def rtT (ps:List Int) (l:List Dem):List GRet×Int:=if (64:Int)<(l.length:Int) then ([],2) else rtS ps l []
def rtV (x:List GRet×Int):AV:= .tup [.one (.sh 6 x.1.length (ar di x.1)),.one (.lit (.int .i64 x.2))]
theorem B9 (ps:List Int):∀(l:List Dem) (out:List GRet),(rtS ps l out).1.length<=out.length+l.length
 |[],out=>by simp [rtS]
 |d::l,out=>by
  simp only [rtS];have:=B9 ps l (out++[rtF (a8 d.deb ps 0) (a8 d.par ps 0) d.gnd d.cts]);simp only [List.length_append,List.length_cons,List.length_nil] at this ⊢;split
  ·simp
  split
  ·simp
  split
  ·omega
  simp
theorem Ca (ps:List Int) (l:List Dem):(rtT ps l).1.length<=64:=by
 unfold rtT;split
 ·simp
 have:=B9 ps l [];simp only [List.length_nil] at this;omega
theorem BJ : (prog.fieldsOf 61).toList = [⟨"Estate", 3, 0, false, "", "", 0⟩, ⟨"Holder", 3, 1, false, "", "", 8⟩, ⟨"Rank", 3, 2, false, "", "", 16⟩, ⟨"Amount", 32, 3, false, "", "", 24⟩] := by kernel_rfl
theorem Dn (a:GRet):zg prog 61 [.int .i64 a.est,.int .i64 a.holder,.int .i64 a.rank,.bool a.amount.neg,.string a.amount.num,.string a.amount.den] [.int .i64 a.est,.int .i64 a.holder,.int .i64 a.rank,.bool a.amount.neg,.string a.amount.num,.string a.amount.den]:=fun w=>⟨by
 have h2:=run_equalIn_agg (P:=prog) w 9999 61 #[.int .i64 a.est,.int .i64 a.holder,.int .i64 a.rank,.bool a.amount.neg,.string a.amount.num,.string a.amount.den] #[.int .i64 a.est,.int .i64 a.holder,.int .i64 a.rank,.bool a.amount.neg,.string a.amount.num,.string a.amount.den] (by kernel_rfl) (by kernel_rfl);have h3:(Op.equal 61 (.agg #[.int .i64 a.est,.int .i64 a.holder,.int .i64 a.rank,.bool a.amount.neg,.string a.amount.num,.string a.amount.den]) (.agg #[.int .i64 a.est,.int .i64 a.holder,.int .i64 a.rank,.bool a.amount.neg,.string a.amount.num,.string a.amount.den])).run prog w=(Op.equalIn (9999+1) 61 (.agg #[.int .i64 a.est,.int .i64 a.holder,.int .i64 a.rank,.bool a.amount.neg,.string a.amount.num,.string a.amount.den]) (.agg #[.int .i64 a.est,.int .i64 a.holder,.int .i64 a.rank,.bool a.amount.neg,.string a.amount.num,.string a.amount.den])).run prog w:=rfl;have hi:=fun (x y:Int)=>run_equalIn_int (P:=prog) w 9998 3 .i64 .i64 x y (by kernel_rfl)
 have hb:=fun (a b:Bool)=>run_equalIn_bool' (P:=prog) w 9998 4 a b (by kernel_rfl)
 have hr:=DV a.amount.neg a.amount.num a.amount.den 9997 w;have p0:=pq #[.int .i64 a.est,.int .i64 a.holder,.int .i64 a.rank,.bool a.amount.neg,.string a.amount.num,.string a.amount.den] 0 _ rfl w;have p1:=pq #[.int .i64 a.est,.int .i64 a.holder,.int .i64 a.rank,.bool a.amount.neg,.string a.amount.num,.string a.amount.den] 1 _ rfl w;have p2:=pq #[.int .i64 a.est,.int .i64 a.holder,.int .i64 a.rank,.bool a.amount.neg,.string a.amount.num,.string a.amount.den] 2 _ rfl w;have p3:=Cx #[.int .i64 a.est,.int .i64 a.holder,.int .i64 a.rank,.bool a.amount.neg,.string a.amount.num,.string a.amount.den] 3 (.bool a.amount.neg) (.string a.amount.num) (.string a.amount.den) (by rfl) (by simp) w;show (Op.equal 61 (.agg #[.int .i64 a.est,.int .i64 a.holder,.int .i64 a.rank,.bool a.amount.neg,.string a.amount.num,.string a.amount.den]) (.agg #[.int .i64 a.est,.int .i64 a.holder,.int .i64 a.rank,.bool a.amount.neg,.string a.amount.num,.string a.amount.den])).run prog w=_;rw [h3,h2,BJ];have n0 : ¬ "Estate" = "_" := by decide
 have n1 : ¬ "Holder" = "_" := by decide
 have n2 : ¬ "Rank" = "_" := by decide
 have n3 : ¬ "Amount" = "_" := by decide
 simp only [Op.eqFields,ne_eq,n0,n1,n2,n3,not_false_eq_true,if_true,Sem.run_bind,p0,Result.andThen_ok];simp [hi,hr,p1,p2,p3,oc,eqV],by kernel_rfl⟩
theorem Do (a:GRet):oc [.int .i64 a.est,.int .i64 a.holder,.int .i64 a.rank,.bool a.amount.neg,.string a.amount.num,.string a.amount.den] [.int .i64 a.est,.int .i64 a.holder,.int .i64 a.rank,.bool a.amount.neg,.string a.amount.num,.string a.amount.den]=true:=by simp [oc,eqV]
def F4:=And.intro zS (And.intro tf8 (And.intro tf9 (And.intro pi (And.intro tu (And.intro xd (And.intro u4 (And.intro hZ (And.intro u5 (And.intro pj (And.intro u6 (u7)))))))))))
theorem F5:type_of%F4:=F4
theorem Cy (list:List N4) (hn:list.length<=9223372036854775807):ch prog 22 [.one (.sh 4 list.length (ar cN4 list))] (.val (.one (.sh 4 (dmL list).length (ar dn (dmL list))))):=by
 refine bF func22 rfl (by decide) (N:=49) rfl (by simp) (R:=[.tmp 2]) rfl fun en k0=>?_
 refine awN ?_;simp only [F5,seval];repeat refine ob ?_
 refine awN ?_;simp only [F5,seval];repeat refine ob ?_
 refine awN ?_;simp only [F5,seval];repeat refine ob ?_
 refine rS 3 47 88 4 (by decide) (by rfl) ?_;simp only [F5,seval];refine aQ [0,3,4] [47] ?_;try simp only [aq,F5,seval]
 repeat' first|apply awS|apply awB
 refine aB (fun n st=>∃k s nx,k<=list.length/\k<=10/\n=10-k/\st=⟨mkT [(0,.val (.one (.sh 4 list.length (ar cN4 list)))),(3,.val (.one (.own 47 s k 4))),(4,one (.int .i64 k))],mkH [(47,⟨s,88,4,k,ar dn ((list.take k).map dmF)⟩)],nx,0⟩) (10) ⟨0,_,_,by omega,by omega,by omega,rfl⟩ ?_;rintro n0 st ⟨k,s,nx0,hk,hk10,rfl,rfl⟩;by_cases hi0:(k:Int)<(list.length:Int)
 ·by_cases hi1:(k:Int)<(10:Int)
  ·refine awR [] [0,0,0,0,0,21,21,0] ?_;simp only [F5,seval,hi0,hi1];repeat refine ob ?_
   refine awT ?_;refine awK ?_;simp only [F5,seval];have hkl:k<list.length:=by omega
   have hat:=aO r7 list k hkl;have hsn:=Dm list k hkl;generalize list[k]=q at *
   simp only [dn,dmF] at hsn;have w1:((q.a:Nat):Int).tmod 4=((q.a%4:Nat):Int):=Br q.a 4;have w2:((q.b:Nat):Int).tmod 5=((q.b%5:Nat):Int):=Br q.b 5;have w3:((q.c:Nat):Int).tmod 2=((q.c%2:Nat):Int):=Br q.c 2;have w4:((q.d:Nat):Int).tmod 700=((q.d%700:Nat):Int):=Br q.d 700;refine awD (scT 0 31 (scq [62,64,67] .nil)) [0,0,0,0,0,0,0,0,0,0,0,0,0,0,0,0,0,0,0,0,0,0,0,0,0,0,0,0,0,0,0,0,0,0] ?_;simp only [F5,seval,hi0,hi1,hat,cN4,w1,w2,w3,w4];repeat refine ob ?_
   refine awN ?_;simp only [F5,seval,hi0];repeat refine ob ?_
   repeat refine ob ?_
   refine ⟨_,aH [0,3,4] [47],10-(k+1),by omega,k+1,?sa7,?na7,by omega,by omega,rfl,?st7⟩;case st7=>(simp only [F5,seval,hsn];first|rfl|(simp;done))
  refine awR [] [0,0,0,0,0,21,21,0] ?_;simp only [F5,seval,hi0,hi1];repeat refine ob ?_
  refine awF ?_;refine awQ ?_;simp only [F5,seval];refine awN ?_;simp only [F5,seval,hi0,hi1];repeat refine ob ?_
  have hdm:dmL list=(list.take k).map dmF:=by unfold dmL;rw [show k=10 by omega]
  have hdl:((list.take k).map dmF).length=k:=by rw [List.length_map,List.length_take];omega
  refine awX ?_;rw [hdm,hdl];simp only [F5,seval,ab aC]
 refine awR [] [0,0,0,0,0,21,21,0] ?_;simp only [F5,seval,hi0];repeat refine ob ?_
 refine awF ?_;refine awQ ?_;simp only [F5,seval];refine awN ?_;simp only [F5,seval,hi0];repeat refine ob ?_
 have hdm:dmL list=(list.take k).map dmF:=by unfold dmL;rw [List.take_of_length_le (show list.length<=10 by omega),List.take_of_length_le (show list.length<=k by omega)]
 have hdl:((list.take k).map dmF).length=k:=by rw [List.length_map,List.length_take];omega
 refine awX ?_;rw [hdm,hdl];simp only [F5,seval,ab aC]
def F6:=And.intro zS (And.intro pk (And.intro tv (tw)))
theorem F7:type_of%F6:=F6
theorem Cb (ps:List Int) (x:Int) (hn:ps.length<=1000000000000):ch prog 49 [.one (.sh 1 ps.length (ar cI ps)),.one (.lit (.int .i64 x))] (one (.int .i64 (a8 x ps 0))):=by
 refine bF func49 rfl (by decide) (N:=19) rfl (by simp) (R:=[.tmp 4]) rfl fun en k0=>?_
 refine awN ?_;simp only [F7,seval];repeat refine ob ?_
 refine awN ?_;simp only [F7,seval];repeat refine ob ?_
 refine aQ [0,1,7,8] [] ?_;try simp only [aq,F7,seval]
 repeat' first|apply awS|apply awB
 refine aB (fun n st=>∃k nx,k<=ps.length/\n=ps.length-k/\a8 x (ps.drop k) k=a8 x ps 0/\st=⟨mkT [(0,.val (.one (.sh 1 ps.length (ar cI ps)))),(1,one (.int .i64 x)),(7,one (.int .i64 ps.length)),(8,one (.int .i64 k))],mkH [],nx,0⟩) (ps.length) ⟨0,_,by omega,by omega,by rfl,rfl⟩ ?_;rintro n0 st ⟨k,nx0,hk0,rfl,hL0,rfl⟩;by_cases hlt0:k<ps.length
 ·skip;have hI0:(k:Int)<(ps.length:Int):=by omega
  have hat0:=aO qP ps k hlt0;try rw [Nat.mul_one] at hat0
  rw [List.drop_eq_getElem_cons hlt0] at hL0;generalize ps[k]=y at *
  simp only [a8] at hL0;refine awN ?_;simp only [F7,seval,hI0,hat0];repeat refine ob ?_
  refine awT ?_;refine awK ?_;simp only [F7,seval];refine awN ?_;simp only [F7,seval,hI0,hat0];repeat refine ob ?_
  by_cases hx:x=y
  ·skip;have hx2:(x=y)=True:=by simp [hx]
   have hx3:(y=x)=True:=by simp [hx]
   refine awN ?_;simp only [F7,seval,hI0,hat0,hx2,hx3,cI];repeat refine ob ?_
   refine awT ?_;refine awN ?_;simp only [F7,seval,hI0,hat0,hx2,hx3];repeat refine ob ?_
   refine awX ?_;rw [←hL0];simp only [F7,seval,hx2,if_true]
  skip;have hx2:(x=y)=False:=by simp [hx]
  have hx3:(y=x)=False:=by simp only [eq_iff_iff,iff_false];exact fun h=>hx (by rw [h])
  refine awN ?_;simp only [F7,seval,hI0,hat0,hx2,hx3,cI];repeat refine ob ?_
  refine awF ?_;refine awK ?_;simp only [F7,seval];refine awN ?_;simp only [F7,seval,hI0,hat0,hx2,hx3];repeat refine ob ?_
  repeat refine ob ?_
  refine ⟨_,aH [0,1,7,8] [],ps.length-(k+1),by omega,k+1,?a9_nx,by omega,rfl,?i9_0,?st9⟩;case st9=>(simp only [F7,seval,hI0,hat0,hx2,hx3];first|rfl|(simp [hI0,hat0,hx2,hx3,Nat.add_mul];done))
  case i9_0=>(first|exact hL0|(rw [←hL0];simp only [reduceIte,hI0,hat0,hx2,hx3];done)|(rw [←hL0];simp [hI0,hat0,hx2,hx3];done)|(simp [hI0,hat0,hx2,hx3] at hL0;simpa using hL0)|(rw [←hL0];simp [*];done))
 skip;obtain rfl:k=ps.length:=by omega
 have hI0:¬(ps.length:Int)<(ps.length:Int):=by omega
 rw [List.drop_length] at hL0;simp only [a8] at hL0;refine awN ?_;simp only [F7,seval,hI0];repeat refine ob ?_
 refine awF ?_;refine awQ ?_;simp only [F7,seval];refine awN ?_;simp only [F7,seval,hI0];repeat refine ob ?_
 refine awX ?_;rw [←hL0];simp only [F7,seval]
def F8:=And.intro zS (And.intro pk (And.intro tv (tw)))
theorem F9:type_of%F8:=F8
theorem Cc (ps:List Int) (x:Int) (hn:ps.length<=1000000000000):ch prog 52 [.one (.sh 1 ps.length (ar cI ps)),.one (.lit (.int .i64 x))] (one (.int .i64 (a8 x ps 0))):=by
 refine bF func52 rfl (by decide) (N:=19) rfl (by simp) (R:=[.tmp 4]) rfl fun en k0=>?_
 refine awN ?_;simp only [F9,seval];repeat refine ob ?_
 refine awN ?_;simp only [F9,seval];repeat refine ob ?_
 refine aQ [0,1,5] [] ?_;try simp only [aq,F9,seval]
 repeat' first|apply awS|apply awB
 refine aB (fun n st=>∃k nx,k<=ps.length/\n=ps.length-k/\a8 x (ps.drop k) k=a8 x ps 0/\st=⟨mkT [(0,.val (.one (.sh 1 ps.length (ar cI ps)))),(1,one (.int .i64 x)),(5,one (.int .i64 k))],mkH [],nx,0⟩) (ps.length) ⟨0,_,by omega,by omega,by rfl,rfl⟩ ?_;rintro n0 st ⟨k,nx0,hk0,rfl,hL0,rfl⟩;by_cases hlt0:k<ps.length
 ·skip;have hI0:(k:Int)<(ps.length:Int):=by omega
  have hat0:=aO qP ps k hlt0;try rw [Nat.mul_one] at hat0
  rw [List.drop_eq_getElem_cons hlt0] at hL0;generalize ps[k]=y at *
  simp only [a8] at hL0;refine awN ?_;simp only [F9,seval,hI0,hat0];repeat refine ob ?_
  refine awT ?_;refine awK ?_;simp only [F9,seval];by_cases hx:y=x
  ·skip;have hx2:(x=y)=True:=by simp [hx]
   have hx3:(y=x)=True:=by simp [hx]
   refine awN ?_;simp only [F9,seval,hI0,hat0,hx2,hx3,cI];repeat refine ob ?_
   refine awT ?_;refine awN ?_;simp only [F9,seval,hI0,hat0,hx2,hx3];repeat refine ob ?_
   refine awX ?_;rw [←hL0];simp only [F9,seval,hx2,if_true]
  skip;have hx2:(x=y)=False:=by simp only [eq_iff_iff,iff_false];exact fun h=>hx h.symm
  have hx3:(y=x)=False:=by simp only [eq_iff_iff,iff_false];exact fun h=>hx (by rw [h])
  refine awN ?_;simp only [F9,seval,hI0,hat0,hx2,hx3,cI];repeat refine ob ?_
  refine awF ?_;refine awK ?_;simp only [F9,seval];refine awN ?_;simp only [F9,seval,hx2,hx3];repeat refine ob ?_
  repeat refine ob ?_
  refine ⟨_,aH [0,1,5] [],ps.length-(k+1),by omega,k+1,?a8_nx,by omega,rfl,?i8_0,?st8⟩;case st8=>(simp only [F9,seval,hx2,hx3];first|rfl|(simp [hI0,hat0,hx2,hx3,Nat.add_mul];done))
  case i8_0=>(first|exact hL0|(rw [←hL0];simp only [reduceIte,hx2,hx3];done)|(rw [←hL0];simp [hI0,hat0,hx2,hx3];done)|(simp [hI0,hat0,hx2,hx3] at hL0;simpa using hL0)|(rw [←hL0];simp [*];done))
 skip;obtain rfl:k=ps.length:=by omega
 have hI0:¬(ps.length:Int)<(ps.length:Int):=by omega
 rw [List.drop_length] at hL0;simp only [a8] at hL0;refine awN ?_;simp only [F9,seval,hI0];repeat refine ob ?_
 refine awF ?_;refine awQ ?_;simp only [F9,seval];refine awN ?_;simp only [F9,seval];repeat refine ob ?_
 refine awX ?_;rw [←hL0];simp only [F9,seval]
theorem Cz (c:Int):ch prog 50 [.one (.lit (.int .i64 c))] (one (.bool (inR c))):=by
 refine bF func50 rfl (by decide) (N:=9) rfl (by simp) (R:=[.tmp 2]) rfl fun en k0=>?_
 refine awN ?_;simp only [zT,seval];repeat refine ob ?_
 by_cases h0:(0:Int)<=c
 ·by_cases h1:c<=(1125899906842624:Int)
  ·refine awR [] [0,0,0,13,13,0,0] ?_;simp only [zT,seval,h0,h1];repeat refine ob ?_
   refine awX ?_;simp only [zT,seval,inR];simp [*]
  refine awR [] [0,0,0,13,13,0,0] ?_;simp only [zT,seval,h0,h1];repeat refine ob ?_
  refine awX ?_;simp only [zT,seval,inR];simp [*]
 refine awR [] [0,0,0,13,13,0,0] ?_;simp only [zT,seval,h0];repeat refine ob ?_
 refine awX ?_;simp only [zT,seval,inR];simp [*]
theorem Dp (c:Int):ch prog 53 [.one (.lit (.int .i64 c))] (one (.bool (inR c))):=by
 refine bF func53 rfl (by decide) (N:=9) rfl (by simp) (R:=[.tmp 2]) rfl fun en k0=>?_
 refine awN ?_;simp only [zT,seval];repeat refine ob ?_
 by_cases h0:(0:Int)<=c
 ·by_cases h1:c<=(1125899906842624:Int)
  ·refine awR [] [0,0,0,13,13,0,0] ?_;simp only [zT,seval,h0,h1];repeat refine ob ?_
   refine awX ?_;simp only [zT,seval,inR];simp [*]
  refine awR [] [0,0,0,13,13,0,0] ?_;simp only [zT,seval,h0,h1];repeat refine ob ?_
  refine awX ?_;simp only [zT,seval,inR];simp [*]
 refine awR [] [0,0,0,13,13,0,0] ?_;simp only [zT,seval,h0];repeat refine ob ?_
 refine awX ?_;simp only [zT,seval,inR];simp [*]
def F10:=And.intro zS (And.intro tf0 (And.intro tf7 (tf2)))
theorem F11:type_of%F10:=F10
theorem eS (c:Int) (hc:inR c=true):ch prog 51 [.one (.lit (.int .i64 c)),.one (.lit (.int .i64 100))] (.tup [.agg (cS (enc (mkRat c 100))),.one (.lit (.bool true))]):=by
 simp only [inR,Bool.and_eq_true,decide_eq_true_eq] at hc;have h0:¬c<0:=by omega
 have h1:¬(100:Int)<0:=by decide
 have s1:(al c.natAbs).size<=8:=by rw [bx];exact ba (by omega)
 have s2:(al 100).size<=8:=by rw [bx];exact ba (by omega)
 have hM1:ch prog 72 [.one (.lit (.int .i64 c))] (one (.string (al c.natAbs))):=eE (iv func72 (by decide) (by kernel_rfl)) [.int .i64 c] (.string (al c.natAbs)) fun w=>ly c w (by omega) (by omega)
 have hM2:ch prog 72 [.one (.lit (.int .i64 100))] (one (.string (al 100))):=eE (iv func72 (by decide) (by kernel_rfl)) [.int .i64 100] (.string (al 100)) fun w=>ly 100 w (by omega) (by omega)
 have hMk:=CW false (al c.natAbs) (al 100) (by omega) (by omega);rw [aw,aw,show sg false c.natAbs=(c.natAbs:Int) from rfl,show (c.natAbs:Int)=c by omega] at hMk;simp only [show decide (100≠0)=true from rfl] at hMk;refine bF func51 rfl (by decide) (N:=18) rfl (by simp) (R:=[.cell 4 32,.tmp 5]) rfl fun en k0=>?_
 refine awN ?_;simp only [F11,seval];repeat refine ob ?_
 refine awN ?_;simp only [F11,seval,h0,h1,cS];repeat refine ob ?_
 refine ⟨_,hM1,rfl,?_⟩;try simp only [aq,F11,seval]
 repeat refine ob ?_
 refine ⟨_,hM2,rfl,?_⟩;try simp only [aq,F11,seval]
 repeat refine ob ?_
 refine ⟨_,hMk,rfl,?_⟩;try simp only [aq,F11,seval,cS]
 repeat refine ob ?_
 refine awX ?_;(first|(simp only [F11,seval];done)|(simp only [F11,seval];first|(simp [cS];done)))
theorem dM (c:Int) (hc:inR c=true):ch prog 54 [.one (.lit (.int .i64 c)),.one (.lit (.int .i64 100))] (.tup [.agg (cS (enc (mkRat c 100))),.one (.lit (.bool true))]):=by
 simp only [inR,Bool.and_eq_true,decide_eq_true_eq] at hc;obtain ⟨n,rfl⟩:∃n:Nat,c=(n:Int):=⟨c.toNat,by omega⟩;refine ⟨iv func54 (by decide) (by kernel_rfl),fun w T vs _ hd=>?_⟩;rw [kV (l:=[.int .i64 n,.int .i64 100]) hd];refine (nG n 100 w (by omega) (by omega) (by decide)).mono fun e w' ⟨he,hb⟩=>⟨_,he,hb,[aN (enc (mkRat (n:Int) 100)),.bool true],rfl,?_⟩
 generalize enc (mkRat (n:Int) 100)=q;exact ⟨⟨[.bool q.neg,.string q.num,.string q.den],rfl,by simp [denVs,den,cS,Value.oneCell']⟩,by simp [bb,den,Value.oneCell'],trivial⟩
def F12:=And.intro zS (And.intro pl (And.intro tu (And.intro tx (And.intro tz (And.intro pm (And.intro tA (And.intro xe (And.intro xf (And.intro tf0 (And.intro xg (And.intro tw (And.intro xh (And.intro u7 (And.intro tf2 (yB)))))))))))))))
theorem F13:type_of%F12:=F12
theorem A0 (ps:List Int) (l:List Dem) (hn:ps.length<=1000000000000) (hl:l.length<=9223372036854775807):ch prog 21 [.one (.sh 4 l.length (ar dn l)),.one (.sh 1 ps.length (ar cI ps))] (rtV (rtT ps l)):=by
 refine bF func21 rfl (by decide) (N:=64) rfl (by simp) (R:=[.tmp 4,.tmp 5]) rfl fun en k0=>?_
 refine awN ?_;simp only [F13,seval];repeat refine ob ?_
 by_cases h64:(64:Int)<(l.length:Int)
 ·refine awN ?_;simp only [F13,seval,h64];repeat refine ob ?_
  refine awT ?_;refine awN ?_;simp only [F13,seval,h64];repeat refine ob ?_
  refine rS 4 70 61 6 (by decide) (by rfl) ?_;refine awX ?_;have hR:rtT ps l=([],2):=by unfold rtT;rw [if_pos h64]
  rw [hR];simp only [F13,seval,rtV,av,ej];try simp
 refine awN ?_;simp only [F13,seval,h64];repeat refine ob ?_
 refine awF ?_;refine awK ?_;simp only [F13,seval];refine awN ?_;simp only [F13,seval,h64];repeat refine ob ?_
 refine awN ?_;simp only [F13,seval,h64];repeat refine ob ?_
 refine rS 6 61 61 6 (by decide) (by rfl) ?_;refine aQ [1,6,17,18,19] [61] ?_;try simp only [aq,F13,seval,h64,ay,di,rtF,List.length_append,List.length_cons,List.length_nil]
 repeat' first|apply awS|apply awB
 refine aB (fun n st=>∃k out s nx,k<=l.length/\n=l.length-k/\rtS ps (l.drop k) out=rtS ps l []/\out.length<=k/\st=⟨mkT [(1,.val (.one (.sh 1 ps.length (ar cI ps)))),(6,.val (.one (.own 61 s out.length 6))),(17,.val (.one (.sh 4 l.length (ar dn l)))),(18,one (.int .i64 l.length)),(19,one (.int .i64 k))],mkH [(61,⟨s,61,6,out.length,ar di out⟩)],nx,0⟩) (l.length) ⟨0,[],_,_,by omega,by omega,by rfl,(by first|omega|assumption|rfl|simp|(simp;omega)),rfl⟩ ?_;rintro n0 st ⟨k,out,s,nx0,hk0,rfl,hL0,hV0_1,rfl⟩;by_cases hlt0:k<l.length
 ·have hI0:(k:Int)<(l.length:Int):=by omega
  have hat0:=aO AF l k hlt0;try rw [Nat.mul_one] at hat0
  rw [List.drop_eq_getElem_cons hlt0] at hL0;have hE:=Cb ps l[k].deb hn;have hH:=Cb ps l[k].par hn;have hC:=Cz l[k].cts;have hi1:=o5 l[k].deb ps 0;have hi2:=o5 l[k].par ps 0;generalize l[k]=d at *
  simp only [rtS] at hL0;refine awN ?_;simp only [F13,seval,h64,hI0,hat0];repeat refine ob ?_
  refine awT ?_;refine awK ?_;simp only [F13,seval];refine awN ?_;simp only [F13,seval,h64,hI0,hat0,dn,hat0];repeat refine ob ?_
  refine awD (scq [1,3,5,9,11,13,6,14,17,19] .nil) [0,0,0,0,0,0,0,0,0,0] ?_;simp only [F13,seval,h64,hI0,hat0,dn,ab rV];repeat refine ob ?_
  refine ⟨_,hE,rfl,?_⟩;try simp only [aq,F13,seval,h64,hI0,hat0,dn,ab rV]
  repeat refine ob ?_
  refine ⟨_,hH,rfl,?_⟩;try simp only [aq,F13,seval,h64,hI0,hat0,dn,ab rV]
  repeat refine ob ?_
  by_cases he:a8 d.deb ps 0<0
  ·refine awN ?_;simp only [F13,seval,h64,hI0,hat0,he];repeat refine ob ?_
   refine awT ?_;refine awN ?_;simp only [F13,seval,h64,hI0,hat0,he];repeat refine ob ?_
   refine rS 4 70 61 6 (by decide) (by rfl) ?_;refine awX ?_;have hR:rtT ps l=([],14):=by unfold rtT;rw [if_neg h64,←hL0];simp [he]
   rw [hR];simp only [F13,seval,rtV,av,ej];try simp
  refine awN ?_;simp only [F13,seval,h64,hI0,hat0,he];repeat refine ob ?_
  refine awF ?_;by_cases hh:a8 d.par ps 0=a8 d.deb ps 0
  ·refine awN ?_;simp only [F13,seval,h64,hI0,hat0,he,hh];repeat refine ob ?_
   refine awT ?_;refine awN ?_;simp only [F13,seval,h64,hI0,hat0,he,hh];repeat refine ob ?_
   refine rS 4 70 61 6 (by decide) (by rfl) ?_;refine awX ?_;have hR:rtT ps l=([],19):=by unfold rtT;rw [if_neg h64,←hL0];simp [he,hh]
   rw [hR];simp only [F13,seval,rtV,av,ej];try simp
  refine awN ?_;simp only [F13,seval,h64,hI0,hat0,he,hh];repeat refine ob ?_
  refine awF ?_;by_cases hc:inR d.cts=true
  ·refine awN ?_;simp only [F13,seval,h64,hI0,hat0,he,hh,hc];repeat refine ob ?_
   refine ⟨_,hC,rfl,?_⟩;try simp only [aq,F13,seval,h64,hI0,hat0,he,hh,hc]
   repeat refine ob ?_
   refine awF ?_;refine awK ?_;simp only [F13,seval];by_cases hn0:a8 d.par ps 0<0
   ·refine awN ?_;simp only [F13,seval,h64,hI0,hat0,he,hh,hc,hn0];repeat refine ob ?_
    refine awT ?_;refine awN ?_;simp only [F13,seval,h64,hI0,hat0,he,hh,hc,hn0];repeat refine ob ?_
    refine awN ?_;simp only [F13,seval,h64,hI0,hat0,he,hh,hc,hn0];repeat refine ob ?_
    by_cases hg:d.gnd=1
    ·refine awN ?_;simp only [F13,seval,h64,hI0,hat0,he,hh,hc,hn0,hg];repeat refine ob ?_
     refine awT ?_;refine awN ?_;simp only [F13,seval,h64,hI0,hat0,he,hh,hc,hn0,hg];repeat refine ob ?_
     have hF:=eS d.cts hc;refine awN ?_;simp only [F13,seval,h64,hI0,hat0,he,hh,hc,hn0,hg,cS];repeat refine ob ?_
     refine ⟨_,hF,rfl,?_⟩;try simp only [aq,F13,seval,h64,hI0,hat0,he,hh,hc,hn0,hg,cS]
     repeat refine ob ?_
     refine awN ?_;simp only [F13,seval,h64,hI0,hat0,he,hh,hc,hn0,hg,cS];repeat refine ob ?_
     refine awN ?_;simp only [F13,seval,h64,hI0,hat0,he,hh,hc,hn0,hg];repeat refine ob ?_
     repeat refine ob ?_
     refine ⟨_,aH [1,6,17,18,19] [61],l.length-(k+1),by omega,k+1,(out++[rtF (a8 d.deb ps 0) (a8 d.par ps 0) d.gnd d.cts]),?a27_s,?a27_nx,by omega,rfl,?i27_0,?i27_1,?st27⟩;case st27=>(simp only [F13,seval,ay,di,rtF,List.length_append,List.length_cons,List.length_nil,h64,hI0,hat0,he,hh,hc,hn0,hg];first|rfl|(simp [ay,di,rtF,List.length_append,List.length_cons,List.length_nil,h64,hI0,hat0,he,hh,hc,hn0,hg,Nat.add_mul];done))
     case i27_0=>(rw [←hL0];simp [he,hh,hc])
     all_goals (first|omega|assumption|(simp;omega)|(simp_all;done))
    refine awN ?_;simp only [F13,seval,h64,hI0,hat0,he,hh,hc,hn0,hg];repeat refine ob ?_
    refine awF ?_;refine awK ?_;simp only [F13,seval];have hF:=eS d.cts hc;refine awN ?_;simp only [F13,seval,h64,hI0,hat0,he,hh,hc,hn0,hg,cS];repeat refine ob ?_
    refine ⟨_,hF,rfl,?_⟩;try simp only [aq,F13,seval,h64,hI0,hat0,he,hh,hc,hn0,hg,cS]
    repeat refine ob ?_
    refine awN ?_;simp only [F13,seval,h64,hI0,hat0,he,hh,hc,hn0,hg,cS];repeat refine ob ?_
    refine awN ?_;simp only [F13,seval,h64,hI0,hat0,he,hh,hc,hn0,hg];repeat refine ob ?_
    repeat refine ob ?_
    refine ⟨_,aH [1,6,17,18,19] [61],l.length-(k+1),by omega,k+1,(out++[rtF (a8 d.deb ps 0) (a8 d.par ps 0) d.gnd d.cts]),?a32_s,?a32_nx,by omega,rfl,?i32_0,?i32_1,?st32⟩;case st32=>(simp only [F13,seval,ay,di,rtF,List.length_append,List.length_cons,List.length_nil,h64,hI0,hat0,he,hh,hc,hn0,hg];first|rfl|(simp [ay,di,rtF,List.length_append,List.length_cons,List.length_nil,h64,hI0,hat0,he,hh,hc,hn0,hg,Nat.add_mul];done))
    case i32_0=>(rw [←hL0];simp [he,hh,hc])
    all_goals (first|omega|assumption|(simp;omega)|(simp_all;done))
   refine awN ?_;simp only [F13,seval,h64,hI0,hat0,he,hh,hc,hn0];repeat refine ob ?_
   refine awF ?_;refine awK ?_;simp only [F13,seval];refine awN ?_;simp only [F13,seval,h64,hI0,hat0,he,hh,hc,hn0];repeat refine ob ?_
   by_cases hg:d.gnd=1
   ·refine awN ?_;simp only [F13,seval,h64,hI0,hat0,he,hh,hc,hn0,hg];repeat refine ob ?_
    refine awT ?_;refine awN ?_;simp only [F13,seval,h64,hI0,hat0,he,hh,hc,hn0,hg];repeat refine ob ?_
    have hF:=eS d.cts hc;refine awN ?_;simp only [F13,seval,h64,hI0,hat0,he,hh,hc,hn0,hg,cS];repeat refine ob ?_
    refine ⟨_,hF,rfl,?_⟩;try simp only [aq,F13,seval,h64,hI0,hat0,he,hh,hc,hn0,hg,cS]
    repeat refine ob ?_
    refine awN ?_;simp only [F13,seval,h64,hI0,hat0,he,hh,hc,hn0,hg,cS];repeat refine ob ?_
    refine awN ?_;simp only [F13,seval,h64,hI0,hat0,he,hh,hc,hn0,hg];repeat refine ob ?_
    repeat refine ob ?_
    refine ⟨_,aH [1,6,17,18,19] [61],l.length-(k+1),by omega,k+1,(out++[rtF (a8 d.deb ps 0) (a8 d.par ps 0) d.gnd d.cts]),?a40_s,?a40_nx,by omega,rfl,?i40_0,?i40_1,?st40⟩;case st40=>(simp only [F13,seval,ay,di,rtF,List.length_append,List.length_cons,List.length_nil,h64,hI0,hat0,he,hh,hc,hn0,hg];first|rfl|(simp [ay,di,rtF,List.length_append,List.length_cons,List.length_nil,h64,hI0,hat0,he,hh,hc,hn0,hg,Nat.add_mul];done))
    case i40_0=>(rw [←hL0];simp [he,hh,hc])
    all_goals (first|omega|assumption|(simp;omega)|(simp_all;done))
   refine awN ?_;simp only [F13,seval,h64,hI0,hat0,he,hh,hc,hn0,hg];repeat refine ob ?_
   refine awF ?_;refine awK ?_;simp only [F13,seval];have hF:=eS d.cts hc;refine awN ?_;simp only [F13,seval,h64,hI0,hat0,he,hh,hc,hn0,hg,cS];repeat refine ob ?_
   refine ⟨_,hF,rfl,?_⟩;try simp only [aq,F13,seval,h64,hI0,hat0,he,hh,hc,hn0,hg,cS]
   repeat refine ob ?_
   refine awN ?_;simp only [F13,seval,h64,hI0,hat0,he,hh,hc,hn0,hg,cS];repeat refine ob ?_
   refine awN ?_;simp only [F13,seval,h64,hI0,hat0,he,hh,hc,hn0,hg];repeat refine ob ?_
   repeat refine ob ?_
   refine ⟨_,aH [1,6,17,18,19] [61],l.length-(k+1),by omega,k+1,(out++[rtF (a8 d.deb ps 0) (a8 d.par ps 0) d.gnd d.cts]),?a45_s,?a45_nx,by omega,rfl,?i45_0,?i45_1,?st45⟩;case st45=>(simp only [F13,seval,ay,di,rtF,List.length_append,List.length_cons,List.length_nil,h64,hI0,hat0,he,hh,hc,hn0,hg];first|rfl|(simp [ay,di,rtF,List.length_append,List.length_cons,List.length_nil,h64,hI0,hat0,he,hh,hc,hn0,hg,Nat.add_mul];done))
   case i45_0=>(rw [←hL0];simp [he,hh,hc])
   all_goals (first|omega|assumption|(simp;omega)|(simp_all;done))
  have hcf:inR d.cts=false:=by simpa using hc
  refine awN ?_;simp only [F13,seval,h64,hI0,hat0,he,hh,hc,hcf];repeat refine ob ?_
  refine ⟨_,hC,rfl,?_⟩;try simp only [aq,F13,seval,h64,hI0,hat0,he,hh,hc,hcf]
  repeat refine ob ?_
  refine awT ?_;refine awN ?_;simp only [F13,seval,h64,hI0,hat0,he,hh,hc,hcf];repeat refine ob ?_
  refine rS 4 70 61 6 (by decide) (by rfl) ?_;refine awX ?_;have hR:rtT ps l=([],1):=by unfold rtT;rw [if_neg h64,←hL0];simp [he,hh,hcf]
  rw [hR];simp only [F13,seval,rtV,av,ej];try simp
 obtain rfl:k=l.length:=by omega
 have hI0:¬(l.length:Int)<(l.length:Int):=by omega
 rw [List.drop_length] at hL0;simp only [rtS] at hL0;refine awN ?_;simp only [F13,seval,h64,hI0];repeat refine ob ?_
 refine awF ?_;refine awQ ?_;simp only [F13,seval];refine awN ?_;simp only [F13,seval,h64,hI0];repeat refine ob ?_
 refine awX ?_;have hR:rtT ps l=(out,0):=by unfold rtT;rw [if_neg h64,←hL0]
 rw [hR];simp only [F13,seval,rtV,ab aL]
def F14:=And.intro zS (And.intro pl (And.intro tu (And.intro tx (And.intro tz (And.intro pm (And.intro tA (And.intro xe (And.intro xf (And.intro tf0 (And.intro xg (And.intro tw (And.intro xh (And.intro u7 (And.intro tf2 (yB)))))))))))))))
theorem F15:type_of%F14:=F14
theorem AG (ps:List Int) (l:List Dem) (hn:ps.length<=1000000000000) (hl:l.length<=9223372036854775807):ch prog 23 [.one (.sh 4 l.length (ar dn l)),.one (.sh 1 ps.length (ar cI ps))] (rtV (rtT ps l)):=by
 refine bF func23 rfl (by decide) (N:=64) rfl (by simp) (R:=[.tmp 4,.tmp 5]) rfl fun en k0=>?_
 refine awN ?_;simp only [F15,seval];repeat refine ob ?_
 by_cases h64:(64:Int)<(l.length:Int)
 ·skip;refine awN ?_;simp only [F15,seval,h64];repeat refine ob ?_
  refine awT ?_;refine awN ?_;simp only [F15,seval,h64];repeat refine ob ?_
  refine rS 4 70 61 6 (by decide) (by rfl) ?_;refine awX ?_;have hR:rtT ps l=([],2):=by unfold rtT;rw [if_pos h64]
  rw [hR];simp only [F15,seval,rtV,av,ej];try simp
 skip;refine awN ?_;simp only [F15,seval,h64];repeat refine ob ?_
 refine awF ?_;refine awK ?_;simp only [F15,seval];refine awN ?_;simp only [F15,seval,h64];repeat refine ob ?_
 refine awN ?_;simp only [F15,seval,h64];repeat refine ob ?_
 refine rS 6 62 61 6 (by decide) (by rfl) ?_;refine aQ [1,6,0,7] [62] ?_;try simp only [aq,F15,seval,h64,ay,di,rtF,List.length_append,List.length_cons,List.length_nil]
 repeat' first|apply awS|apply awB
 refine aB (fun n st=>∃k out s nx,k<=l.length/\n=l.length-k/\rtS ps (l.drop k) out=rtS ps l []/\out.length<=k/\st=⟨mkT [(1,.val (.one (.sh 1 ps.length (ar cI ps)))),(6,.val (.one (.own 62 s out.length 6))),(0,.val (.one (.sh 4 l.length (ar dn l)))),(7,one (.int .i64 k))],mkH [(62,⟨s,61,6,out.length,ar di out⟩)],nx,0⟩) (l.length) ⟨0,[],_,_,by omega,by omega,by rfl,(by first|omega|assumption|rfl|simp|(simp;omega)),rfl⟩ ?_;rintro n0 st ⟨k,out,s,nx0,hk0,rfl,hL0,hV0_1,rfl⟩;by_cases hlt0:k<l.length
 ·skip;have hI0:(k:Int)<(l.length:Int):=by omega
  have hat0:=aO AF l k hlt0;try rw [Nat.mul_one] at hat0
  rw [List.drop_eq_getElem_cons hlt0] at hL0;have hE:=Cc ps l[k].deb hn;have hH:=Cc ps l[k].par hn;have hC:=Dp l[k].cts;have hi1:=o5 l[k].deb ps 0;have hi2:=o5 l[k].par ps 0;generalize l[k]=d at *
  simp only [rtS] at hL0;refine awN ?_;simp only [F15,seval,h64,hI0,hat0];repeat refine ob ?_
  refine awT ?_;refine awK ?_;simp only [F15,seval];refine awN ?_;simp only [F15,seval,h64,hI0,hat0,dn,hat0];repeat refine ob ?_
  refine awN ?_;simp only [F15,seval,h64,hI0,hat0,dn,ab rV];repeat refine ob ?_
  refine ⟨_,hE,rfl,?_⟩;try simp only [aq,F15,seval,h64,hI0,hat0,dn,ab rV]
  repeat refine ob ?_
  by_cases he:a8 d.deb ps 0<0
  ·skip;refine awN ?_;simp only [F15,seval,h64,hI0,hat0,he];repeat refine ob ?_
   refine awT ?_;refine awN ?_;simp only [F15,seval,h64,hI0,hat0,he];repeat refine ob ?_
   refine rS 4 70 61 6 (by decide) (by rfl) ?_;refine awX ?_;have hR:rtT ps l=([],14):=by unfold rtT;rw [if_neg h64,←hL0];simp [he]
   rw [hR];simp only [F15,seval,rtV,av,ej];try simp
  skip;refine awN ?_;simp only [F15,seval,h64,hI0,hat0,he];repeat refine ob ?_
  refine awF ?_;refine awK ?_;simp only [F15,seval];refine awN ?_;simp only [F15,seval,h64,hI0,hat0,he,dn,ab rV];repeat refine ob ?_
  refine ⟨_,hH,rfl,?_⟩;try simp only [aq,F15,seval,h64,hI0,hat0,he,dn,ab rV]
  repeat refine ob ?_
  by_cases hn0:a8 d.par ps 0<0
  ·skip;refine awN ?_;simp only [F15,seval,h64,hI0,hat0,he,hn0];repeat refine ob ?_
   refine awT ?_;refine awN ?_;simp only [F15,seval,h64,hI0,hat0,he,hn0];repeat refine ob ?_
   by_cases hh2:(-1:Int)=a8 d.deb ps 0
   ·skip;refine awN ?_;simp only [F15,seval,h64,hI0,hat0,he,hn0,hh2];repeat refine ob ?_
    refine awT ?_;refine awN ?_;simp only [F15,seval,h64,hI0,hat0,he,hn0,hh2];repeat refine ob ?_
    exact absurd hh2 (by omega)
   skip;refine awN ?_;simp only [F15,seval,h64,hI0,hat0,he,hn0,hh2];repeat refine ob ?_
   refine awF ?_;refine awK ?_;simp only [F15,seval];by_cases hc:inR d.cts=true
   ·skip;refine awN ?_;simp only [F15,seval,h64,hI0,hat0,he,hn0,hh2,hc];repeat refine ob ?_
    refine ⟨_,hC,rfl,?_⟩;try simp only [aq,F15,seval,h64,hI0,hat0,he,hn0,hh2,hc]
    repeat refine ob ?_
    refine awF ?_;refine awK ?_;simp only [F15,seval];refine awN ?_;simp only [F15,seval,h64,hI0,hat0,he,hn0,hh2,hc];repeat refine ob ?_
    by_cases hg:d.gnd=1
    ·skip;refine awN ?_;simp only [F15,seval,h64,hI0,hat0,he,hn0,hh2,hc,hg];repeat refine ob ?_
     refine awT ?_;refine awN ?_;simp only [F15,seval,h64,hI0,hat0,he,hn0,hh2,hc,hg];repeat refine ob ?_
     have hF:=dM d.cts hc;refine awN ?_;simp only [F15,seval,h64,hI0,hat0,he,hn0,hh2,hc,hg,cS];repeat refine ob ?_
     refine ⟨_,hF,rfl,?_⟩;try simp only [aq,F15,seval,h64,hI0,hat0,he,hn0,hh2,hc,hg,cS]
     repeat refine ob ?_
     refine awN ?_;simp only [F15,seval,h64,hI0,hat0,he,hn0,hh2,hc,hg,cS];repeat refine ob ?_
     refine awN ?_;simp only [F15,seval,h64,hI0,hat0,he,hn0,hh2,hc,hg];repeat refine ob ?_
     repeat refine ob ?_
     refine ⟨_,aH [1,6,0,7] [62],l.length-(k+1),by omega,k+1,(out++[rtF (a8 d.deb ps 0) (a8 d.par ps 0) d.gnd d.cts]),?a28_s,?a28_nx,by omega,rfl,?i28_0,?i28_1,?st28⟩;case st28=>(simp only [F15,seval,ay,di,rtF,List.length_append,List.length_cons,List.length_nil,h64,hI0,hat0,he,hn0,hh2,hc,hg];first|rfl|(simp [ay,di,rtF,List.length_append,List.length_cons,List.length_nil,h64,hI0,hat0,he,hn0,hh2,hc,hg,Nat.add_mul];done))
     case i28_0=>(rw [←hL0];simp [he,hc,(show ¬a8 d.par ps 0=a8 d.deb ps 0 by omega)])
     all_goals (first|omega|assumption|(simp;omega)|(simp_all;done))
    skip;refine awN ?_;simp only [F15,seval,h64,hI0,hat0,he,hn0,hh2,hc,hg];repeat refine ob ?_
    refine awF ?_;refine awK ?_;simp only [F15,seval];have hF:=dM d.cts hc;refine awN ?_;simp only [F15,seval,h64,hI0,hat0,he,hn0,hh2,hc,hg,cS];repeat refine ob ?_
    refine ⟨_,hF,rfl,?_⟩;try simp only [aq,F15,seval,h64,hI0,hat0,he,hn0,hh2,hc,hg,cS]
    repeat refine ob ?_
    refine awN ?_;simp only [F15,seval,h64,hI0,hat0,he,hn0,hh2,hc,hg,cS];repeat refine ob ?_
    refine awN ?_;simp only [F15,seval,h64,hI0,hat0,he,hn0,hh2,hc,hg];repeat refine ob ?_
    repeat refine ob ?_
    refine ⟨_,aH [1,6,0,7] [62],l.length-(k+1),by omega,k+1,(out++[rtF (a8 d.deb ps 0) (a8 d.par ps 0) d.gnd d.cts]),?a33_s,?a33_nx,by omega,rfl,?i33_0,?i33_1,?st33⟩;case st33=>(simp only [F15,seval,ay,di,rtF,List.length_append,List.length_cons,List.length_nil,h64,hI0,hat0,he,hn0,hh2,hc,hg];first|rfl|(simp [ay,di,rtF,List.length_append,List.length_cons,List.length_nil,h64,hI0,hat0,he,hn0,hh2,hc,hg,Nat.add_mul];done))
    case i33_0=>(rw [←hL0];simp [he,hc,(show ¬a8 d.par ps 0=a8 d.deb ps 0 by omega)])
    all_goals (first|omega|assumption|(simp;omega)|(simp_all;done))
   skip;have hcf:inR d.cts=false:=by simpa using hc
   refine awN ?_;simp only [F15,seval,h64,hI0,hat0,he,hn0,hh2,hc,hcf];repeat refine ob ?_
   refine ⟨_,hC,rfl,?_⟩;try simp only [aq,F15,seval,h64,hI0,hat0,he,hn0,hh2,hc,hcf]
   repeat refine ob ?_
   refine awT ?_;refine awN ?_;simp only [F15,seval,h64,hI0,hat0,he,hn0,hh2,hc,hcf];repeat refine ob ?_
   have hh:¬a8 d.par ps 0=a8 d.deb ps 0:=by omega
   refine rS 4 70 61 6 (by decide) (by rfl) ?_;refine awX ?_;have hR:rtT ps l=([],1):=by unfold rtT;rw [if_neg h64,←hL0];simp [he,hh,hcf]
   rw [hR];simp only [F15,seval,rtV,av,ej];try simp
  skip;refine awN ?_;simp only [F15,seval,h64,hI0,hat0,he,hn0];repeat refine ob ?_
  refine awF ?_;refine awK ?_;simp only [F15,seval];by_cases hh:a8 d.par ps 0=a8 d.deb ps 0
  ·skip;refine awN ?_;simp only [F15,seval,h64,hI0,hat0,he,hn0,hh];repeat refine ob ?_
   refine awT ?_;refine awN ?_;simp only [F15,seval,h64,hI0,hat0,he,hn0,hh];repeat refine ob ?_
   refine rS 4 70 61 6 (by decide) (by rfl) ?_;refine awX ?_;have hR:rtT ps l=([],19):=by unfold rtT;rw [if_neg h64,←hL0];simp [he,hh]
   rw [hR];simp only [F15,seval,rtV,av,ej];try simp
  skip;refine awN ?_;simp only [F15,seval,h64,hI0,hat0,he,hn0,hh];repeat refine ob ?_
  refine awF ?_;refine awK ?_;simp only [F15,seval];by_cases hc:inR d.cts=true
  ·skip;refine awN ?_;simp only [F15,seval,h64,hI0,hat0,he,hn0,hh,hc];repeat refine ob ?_
   refine ⟨_,hC,rfl,?_⟩;try simp only [aq,F15,seval,h64,hI0,hat0,he,hn0,hh,hc]
   repeat refine ob ?_
   refine awF ?_;refine awK ?_;simp only [F15,seval];refine awN ?_;simp only [F15,seval,h64,hI0,hat0,he,hn0,hh,hc];repeat refine ob ?_
   by_cases hg:d.gnd=1
   ·skip;refine awN ?_;simp only [F15,seval,h64,hI0,hat0,he,hn0,hh,hc,hg];repeat refine ob ?_
    refine awT ?_;refine awN ?_;simp only [F15,seval,h64,hI0,hat0,he,hn0,hh,hc,hg];repeat refine ob ?_
    have hF:=dM d.cts hc;refine awN ?_;simp only [F15,seval,h64,hI0,hat0,he,hn0,hh,hc,hg,cS];repeat refine ob ?_
    refine ⟨_,hF,rfl,?_⟩;try simp only [aq,F15,seval,h64,hI0,hat0,he,hn0,hh,hc,hg,cS]
    repeat refine ob ?_
    refine awN ?_;simp only [F15,seval,h64,hI0,hat0,he,hn0,hh,hc,hg,cS];repeat refine ob ?_
    refine awN ?_;simp only [F15,seval,h64,hI0,hat0,he,hn0,hh,hc,hg];repeat refine ob ?_
    repeat refine ob ?_
    refine ⟨_,aH [1,6,0,7] [62],l.length-(k+1),by omega,k+1,(out++[rtF (a8 d.deb ps 0) (a8 d.par ps 0) d.gnd d.cts]),?a49_s,?a49_nx,by omega,rfl,?i49_0,?i49_1,?st49⟩;case st49=>(simp only [F15,seval,ay,di,rtF,List.length_append,List.length_cons,List.length_nil,h64,hI0,hat0,he,hn0,hh,hc,hg];first|rfl|(simp [ay,di,rtF,List.length_append,List.length_cons,List.length_nil,h64,hI0,hat0,he,hn0,hh,hc,hg,Nat.add_mul];done))
    case i49_0=>(rw [←hL0];simp [he,hh,hc])
    all_goals (first|omega|assumption|(simp;omega)|(simp_all;done))
   skip;refine awN ?_;simp only [F15,seval,h64,hI0,hat0,he,hn0,hh,hc,hg];repeat refine ob ?_
   refine awF ?_;refine awK ?_;simp only [F15,seval];have hF:=dM d.cts hc;refine awN ?_;simp only [F15,seval,h64,hI0,hat0,he,hn0,hh,hc,hg,cS];repeat refine ob ?_
   refine ⟨_,hF,rfl,?_⟩;try simp only [aq,F15,seval,h64,hI0,hat0,he,hn0,hh,hc,hg,cS]
   repeat refine ob ?_
   refine awN ?_;simp only [F15,seval,h64,hI0,hat0,he,hn0,hh,hc,hg,cS];repeat refine ob ?_
   refine awN ?_;simp only [F15,seval,h64,hI0,hat0,he,hn0,hh,hc,hg];repeat refine ob ?_
   repeat refine ob ?_
   refine ⟨_,aH [1,6,0,7] [62],l.length-(k+1),by omega,k+1,(out++[rtF (a8 d.deb ps 0) (a8 d.par ps 0) d.gnd d.cts]),?a54_s,?a54_nx,by omega,rfl,?i54_0,?i54_1,?st54⟩;case st54=>(simp only [F15,seval,ay,di,rtF,List.length_append,List.length_cons,List.length_nil,h64,hI0,hat0,he,hn0,hh,hc,hg];first|rfl|(simp [ay,di,rtF,List.length_append,List.length_cons,List.length_nil,h64,hI0,hat0,he,hn0,hh,hc,hg,Nat.add_mul];done))
   case i54_0=>(rw [←hL0];simp [he,hh,hc])
   all_goals (first|omega|assumption|(simp;omega)|(simp_all;done))
  skip;have hcf:inR d.cts=false:=by simpa using hc
  refine awN ?_;simp only [F15,seval,h64,hI0,hat0,he,hn0,hh,hc,hcf];repeat refine ob ?_
  refine ⟨_,hC,rfl,?_⟩;try simp only [aq,F15,seval,h64,hI0,hat0,he,hn0,hh,hc,hcf]
  repeat refine ob ?_
  refine awT ?_;refine awN ?_;simp only [F15,seval,h64,hI0,hat0,he,hn0,hh,hc,hcf];repeat refine ob ?_
  refine rS 4 70 61 6 (by decide) (by rfl) ?_;refine awX ?_;have hR:rtT ps l=([],1):=by unfold rtT;rw [if_neg h64,←hL0];simp [he,hh,hcf]
  rw [hR];simp only [F15,seval,rtV,av,ej];try simp
 skip;obtain rfl:k=l.length:=by omega
 have hI0:¬(l.length:Int)<(l.length:Int):=by omega
 rw [List.drop_length] at hL0;simp only [rtS] at hL0;refine awN ?_;simp only [F15,seval,h64,hI0];repeat refine ob ?_
 refine awF ?_;refine awQ ?_;simp only [F15,seval];refine awN ?_;simp only [F15,seval,h64,hI0];repeat refine ob ?_
 refine awX ?_;have hR:rtT ps l=(out,0):=by unfold rtT;rw [if_neg h64,←hL0]
 rw [hR];simp only [F15,seval,rtV,ab aL]
def F16:=And.intro zS (And.intro jS (And.intro tx (jT)))
theorem F17:type_of%F16:=F16
theorem gi (l:List GRet) (hl:l.length<=1000000000000):ch prog 24 [.one (.sh 6 l.length (ar di l)),.one (.sh 6 l.length (ar di l))] (one (.bool true)):=by
 refine bF func24 rfl (by decide) (N:=26) rfl (by simp) (R:=[.tmp 4]) rfl fun en k0=>?_
 refine awN ?_;simp only [F17,seval];repeat refine ob ?_
 refine awN ?_;simp only [F17,seval,decide_true,Bool.not_true,BEq.rfl];repeat refine ob ?_
 refine awF ?_;refine awK ?_;simp only [F17,seval];refine awN ?_;simp only [F17,seval];repeat refine ob ?_
 refine aQ [0,1,5] [] ?_;try simp only [aq,F17,seval]
 repeat' first|apply awS|apply awB
 refine aB (fun n st=>∃k nx,k<=l.length/\n=l.length-k/\st=⟨mkT [(0,.val (.one (.sh 6 l.length (ar di l)))),(1,.val (.one (.sh 6 l.length (ar di l)))),(5,one (.int .i64 k))],mkH [],nx,0⟩) (l.length) ⟨0,_,by omega,by omega,rfl⟩ ?_;rintro n0 st ⟨k,nx0,hk0,rfl,rfl⟩;by_cases hlt0:(k:Int)<(l.length:Int)
 ·refine awN ?_;simp only [F17,seval,hlt0];repeat refine ob ?_
  refine awT ?_;refine awK ?_;simp only [F17,seval];have hk2:k<l.length:=by omega
  have hat:=aO CX l k hk2;have hq:=Dn l[k];have hqv:=Do l[k];refine awD (scT 0 9 .nil) [0,0,0,0,0,0,0,0,0] ?_;simp only [F17,seval,hlt0,hat,di,hqv,decide_true,Bool.not_true,BEq.rfl];repeat refine ob ?_
  try refine ⟨hq,?_⟩
  repeat refine ob ?_
  refine awF ?_;refine awK ?_;simp only [F17,seval];refine awN ?_;simp only [F17,seval,hlt0];repeat refine ob ?_
  repeat refine ob ?_
  refine ⟨_,aH [0,1,5] [],l.length-(k+1),by omega,k+1,?na7,by omega,rfl,?st7⟩;case st7=>(simp only [F17,seval];first|rfl|(simp;done))
 refine awN ?_;simp only [F17,seval,hlt0];repeat refine ob ?_
 refine awF ?_;refine awQ ?_;simp only [F17,seval];refine awN ?_;simp only [F17,seval,hlt0];repeat refine ob ?_
 refine awX ?_;(first|(simp only [F17,seval,hlt0];done)|(simp only [F17,seval];first|(simp [hlt0];done)))
end Go.Proofs.YtcgpghifhehlhaaGreatDoor
namespace Go.Proofs.YtcgpghifhehlhaaGreatDoor
open Go.RowKit Go.ChangeShapes Go.WideShapes Go.ChangeAt Go Go.Proofs.Tryz
def cB8 (n:Nat):List C:=[.lit (.int .u8 n)]
theorem Cd (n:Nat):(cB8 n).length=1:=rfl
theorem a7 (n:Nat):av (cB8 n)=true:=rfl
theorem CA:fD prog 5 (rC cB8 (·<256)):=j3
theorem Tryz.cellsB8:prog.cellsOf 5=1:=by kernel_rfl
theorem BK:fD prog 71 (rC (cSl 1 cB8) (nO (·<256))):=pt underlying71 Tryz.cellsB8 (by decide) Cd CA
theorem Tryz.cellsI64C:prog.cellsOf 2=1:=by kernel_rfl
theorem Tryz.cellsDem:prog.cellsOf 88=4:=by kernel_rfl
def Ce (x:Dem):Prop:=xO x.deb/\xO x.par/\xO x.gnd/\xO x.cts
theorem BL:fD prog 88 (rC dn Ce):=by
 refine Bc underlying88 fun H enc W n cs hl hf=>?_
 rw [Tryz.cellsDem] at hl;match cs,hl with
 |[c0,c1,c2,c3],_=>
  obtain ⟨x0,h0⟩:=hf 0 _ 1 rfl Tryz.cellsIntC;obtain ⟨a0,k0,o0⟩:=ms H enc W _ _ _ h0;replace k0:denVs (eP W) [c0] _:=k0;obtain ⟨x1,h1⟩:=hf 1 _ 1 rfl Tryz.cellsIntC;obtain ⟨a1,k1,o1⟩:=ms H enc W _ _ _ h1;replace k1:denVs (eP W) [c1] _:=k1;obtain ⟨x2,h2⟩:=hf 2 _ 1 rfl Tryz.cellsIntC;obtain ⟨a2,k2,o2⟩:=ms H enc W _ _ _ h2;replace k2:denVs (eP W) [c2] _:=k2;obtain ⟨x3,h3⟩:=hf 3 _ 1 rfl Tryz.cellsI64C;obtain ⟨a3,k3,o3⟩:=AE underlying2 H enc W _ _ _ h3;replace k3:denVs (eP W) [c3] _:=k3;exact ⟨⟨a0,a1,a2,a3⟩,(denVs.append k0 (denVs.append k1 (denVs.append k2 k3))),o0,o1,o2,o3⟩
theorem Bs:fD prog 72 (rC (cSl 4 dn) (nO Ce)):=pt underlying72 Tryz.cellsDem (by decide) AF BL
end Go.Proofs.YtcgpghifhehlhaaGreatDoor
namespace Go.Proofs.YtcgpghifhehlhaaGreatDoor
open Go Go.RowKit Go.Proofs.Tryz
inductive Tr (α:Type) where
 |leaf:Tr α
 |node (x:Option α) (l r:Tr α):Tr α
def Tr.seq {α β:Type} (t:Tr α) (k:Tr α->β):β:=match t with
 | .leaf=>k .leaf
 | .node x l r=>k (.node x l r)
theorem Tr.seq_eq {α β:Type} (t:Tr α) (k:Tr α->β):t.seq k=k t:=by cases t<;>rfl
def Tr.get {α:Type}:Tr α->Nat->Option α
 | .leaf,_=>none
 | .node x l r,n=>bif Nat.beq n 0 then x else bif Nat.beq (Nat.mod n 2) 1 then l.get (Nat.div n 2) else r.get (Nat.pred (Nat.div n 2))
def Tr.putF {α:Type} (y:Option α):Nat->Tr α->Nat->Tr α
 |0,t,_=>t
 |f+1,t,n=>match t with
  | .leaf=>bif Nat.beq n 0 then .node y .leaf .leaf else bif Nat.beq (Nat.mod n 2) 1 then (Tr.putF y f .leaf (Nat.div n 2)).seq fun l=> .node none l .leaf else (Tr.putF y f .leaf (Nat.pred (Nat.div n 2))).seq fun r=> .node none .leaf r
  | .node x l r=>bif Nat.beq n 0 then .node y l r else bif Nat.beq (Nat.mod n 2) 1 then (Tr.putF y f l (Nat.div n 2)).seq fun l'=> .node x l' r else (Tr.putF y f r (Nat.pred (Nat.div n 2))).seq fun r'=> .node x l r'
def Tr.put {α:Type} (t:Tr α) (n:Nat) (y:Option α):Tr α:=Tr.putF y (n+1) t n
theorem DX (n m:Nat):Nat.mod n m=n%m:=rfl
theorem DY (n m:Nat):Nat.div n m=n/m:=rfl
theorem CY (n:Nat):Nat.pred n=n-1:=by cases n<;>rfl
theorem Bt (n m:Nat):Nat.beq n m=decide (n=m):=by
 rw [Bool.eq_iff_iff,decide_eq_true_eq,Nat.beq_eq]
theorem Tr.get_leaf {α:Type} (m:Nat):(Tr.leaf:Tr α).get m=none:=rfl
theorem Tr.get_node {α:Type} (x:Option α) (l r:Tr α) (n:Nat):(Tr.node x l r).get n=if n=0 then x else if n%2=1 then l.get (n/2) else r.get (n/2-1):=by
 simp only [Tr.get,DX,DY,CY,Bt,cond_eq_ite,decide_eq_true_eq]
theorem Tr.get_putF {α:Type} (y:Option α):∀(f:Nat) (t:Tr α) (n m:Nat),n<f->(Tr.putF y f t n).get m=if m=n then y else t.get m
 |0,_,_,_,h=>by omega
 |f+1,.leaf,n,m,h=>by
  simp only [Tr.putF,DX,DY,CY,Bt,cond_eq_ite,decide_eq_true_eq,Tr.seq_eq];split
  ·rename_i h0;subst h0;rw [Tr.get_node,Tr.get_leaf,Tr.get_leaf,Tr.get_leaf];simp
  split
  ·rw [Tr.get_node,Tr.get_putF y f .leaf _ _ (by omega)];simp only [Tr.get_leaf];by_cases hm:m=n
   ·subst hm;rw [if_pos rfl,if_neg (by omega),if_pos (by omega),if_pos rfl]
   rw [if_neg hm];split<;>try rfl
   split<;>try rfl
   rw [if_neg (by omega)]
  rw [Tr.get_node,Tr.get_putF y f .leaf _ _ (by omega)];simp only [Tr.get_leaf];by_cases hm:m=n
  ·subst hm;rw [if_pos rfl,if_neg (by omega),if_neg (by omega),if_pos rfl]
  rw [if_neg hm];split<;>try rfl
  split<;>try rfl
  rw [if_neg (by omega)]
 |f+1,.node x l r,n,m,h=>by
  simp only [Tr.putF,DX,DY,CY,Bt,cond_eq_ite,decide_eq_true_eq,Tr.seq_eq];split
  ·rename_i h0;subst h0;rw [Tr.get_node,Tr.get_node];split<;>rfl
  split
  ·rw [Tr.get_node,Tr.get_node,Tr.get_putF y f l _ _ (by omega)];by_cases hm:m=n
   ·subst hm;rw [if_pos rfl,if_neg (by omega),if_pos (by omega),if_pos rfl]
   rw [if_neg hm];split<;>try rfl
   split<;>try rfl
   rw [if_neg (by omega)]
  rw [Tr.get_node,Tr.get_node,Tr.get_putF y f r _ _ (by omega)];by_cases hm:m=n
  ·subst hm;rw [if_pos rfl,if_neg (by omega),if_neg (by omega),if_pos rfl]
  rw [if_neg hm];split<;>try rfl
  split<;>try rfl
  rw [if_neg (by omega)]
theorem Tr.get_put {α:Type} (t:Tr α) (n:Nat) (y:Option α) (m:Nat):(t.put n y).get m=if m=n then y else t.get m:=Tr.get_putF y (n+1) t n m (by omega)
structure ES where
 tm:Tr AV
 H:Tr Blk
 nx:Nat
def ES.tmF (s:ES):Nat->AV:=fun t=>(s.tm.get t).getD .dead
def ES.hF (s:ES):Hp:=fun nm=>s.H.get nm
def ES.st (nb:Nat) (s:ES):St:=⟨s.tmF,s.hF,s.nx,nb⟩
def ES.putT (s:ES) (d:Nat) (x:AV):ES:=⟨s.tm.put d (some x),s.H,s.nx⟩
def ES.putH (s:ES) (nm:Nat) (B:Blk):ES:=⟨s.tm,s.H.put nm (some B),s.nx⟩
theorem ES.tmF_put (s:ES) (d:Nat) (x:AV):(s.putT d x).tmF=up s.tmF d x:=by
 funext t;simp only [ES.tmF,ES.putT,Tr.get_put,aj];split<;>rfl
theorem Ax (H:Tr Blk) (nm:Nat) (B:Option Blk):(fun n=>(H.put nm B).get n)=up (fun n=>H.get n) nm B:=by
 funext n;simp only [Tr.get_put,aj]
theorem ES.hF_put (s:ES) (nm:Nat) (B:Blk):(s.putH nm B).hF=up s.hF nm (some B):=Ax s.H nm (some B)
theorem Rel.nb {e:En} {k0:Kx} {N:Nat} {tm:Nat->AV} {H:Hp} {nx nb:Nat} {a:Act} {w:World} (hr:Rel e k0 N ⟨tm,H,nx,nb⟩ a w) (nb':Nat):Rel e k0 N ⟨tm,H,nx,nb'⟩ a w:=⟨hr.ex,hr.df,hr.sz⟩
theorem RW.later {e:En} {H:Hp} {nx nx':Nat} {σ:Nat->Value} {w:World} (h:RW e H nx σ w) (hn:nx<=nx'):RW e H nx' σ w/\Ext (kx e H nx σ w) (kx e H nx' σ w):=by
 have hext:Ext (kx e H nx σ w) (kx e H nx' σ w):=⟨hn,fun b hb=>⟨⟨hb.1,hb.2.1,hb.2.2⟩,rfl⟩,fun nm B hB=> .inr ⟨B,hB,rfl,rfl,rfl,rfl⟩⟩;exact ⟨⟨h.bel,h.hT,fun nm B hB=>⟨Nat.lt_of_lt_of_le (h.blk nm B hB).1 hn,(h.blk nm B hB).2.kept (row:=none) ⟨rfl,rfl,rfl,Nat.le_refl _,fun _ _ _=>rfl⟩ (Classical.em _) rfl rfl hext⟩,h.inj⟩,hext⟩
theorem Rel.later {e:En} {k0:Kx} {N:Nat} {tm:Nat->AV} {H:Hp} {nx nx' nb:Nat} {a:Act} {w:World} (hr:Rel e k0 N ⟨tm,H,nx,nb⟩ a w) (hn:nx<=nx'):Rel e k0 N ⟨tm,H,nx',nb⟩ a w:=by
 obtain ⟨σ,h1,h2,h3⟩:=hr.ex;obtain ⟨k1,k2⟩:=h1.later hn;exact ⟨⟨σ,k1,fun t=>dz k2 (h2 t),h3.trans k2⟩,hr.df,hr.sz⟩
def AH (st:St) (nm s:Nat):Bool:=match st.H nm with
 |some B=>Nat.beq B.st s
 |none=>false
theorem d4 {st:St} {nm s:Nat} (h:AH st nm s=true):∃B,st.H nm=some B/\B.st=s:=by
 unfold AH at h;split at h
 ·rename_i B hB;exact ⟨B,hB,Nat.eq_of_beq_eq_true h⟩
 cases h
def inB (n:Int):Bool:=decide (-9223372036854775808<=n)&&decide (n<=9223372036854775807)
theorem CZ {n:Int} (h:inB n=true):inK .i64 n:=by
 have h1:IntKind.i64.min= -9223372036854775808:=by decide
 have h2:IntKind.i64.max=9223372036854775807:=by decide
 unfold inB at h;simp only [Bool.and_eq_true,decide_eq_true_eq] at h;unfold inK;rw [h1,h2];exact h
def v6:IntKind->Bool
 | .i64=>true
 |_=>false
def qL (P:Program) (st:St):Op->Bool
 | .fieldAddr _ x _=>match ev st x with
  | .val (.one (.ptr nm s' _))=>AH st nm s'
  |_=>true
 | .indexAddr t x ix=>match ev st x,ev st ix,elT P t,arT P t with
  | .val (.one (.own nm s' n sz)),.val (.one (.lit (.int _ i))),some (_,sz',_),_=>Nat.beq sz sz'&&(decide (0<=i)&&(decide (i<n)&&AH st nm s'))
  | .val (.one (.sh sz n _)),.val (.one (.lit (.int _ i))),some (_,sz',_),_=>Nat.beq sz sz'&&(decide (0<=i)&&decide (i<n))
  | .val (.one (.ptr nm s' _)),.val (.one (.lit (.int _ i))),_,some (n,_,_)=>decide (0<=i)&&(decide (i<n)&&AH st nm s')
  | .val (.one (.sp _)),.val (.one (.lit (.int _ i))),_,some (n,_,_)=>decide (0<=i)&&decide (i<n)
  |_,_,_,_=>false
 | .load t x=>match ev st x,ldT P t with
  | .val (.one (.ptr nm s' off)),some (ag,sz)=>match st.H nm with
   |some B=>Nat.beq B.st s'&&(decide (off+sz<=B.cs.length)&&(ag||Nat.beq sz 1))
   |none=>false
  | .val (.one (.sp cs)),some (ag,sz)=>decide (sz<=cs.length)&&(ag||Nat.beq sz 1)
  |_,_=>false
 | .nilCheck x=>match ev st x with
  | .val (.one (.ptr nm s' _))=>AH st nm s'
  |_=>true
 |_=>false
section
variable {P : Program} {st : St} {p : Prop} {x : AV}
theorem C0 {ag:Bool} {sz:Nat} (h:(ag||Nat.beq sz 1)=true):ag=true∨sz=1:=by
 rcases Bool.or_eq_true_iff.1 h with h|h
 ·exact .inl h
 exact .inr (Nat.eq_of_beq_eq_true h)
theorem CB {op:Op} (hc:qL P st op=true) (h:im P st op=some (p,x)):p:=by
 cases op<;>simp only [qL,im,reduceCtorEq] at hc h;case fieldAddr s y f=>
  split at h<;>try (cases h;done)
  ·rename_i nm s' off o' ft he hf;rw [he] at hc;simp only [Option.some.injEq,Prod.mk.injEq] at h;rw [←h.1];exact d4 hc
  simp only [Option.some.injEq,Prod.mk.injEq] at h;rw [←h.1];trivial
 case indexAddr t y ix=>
  split at h<;>try (cases h;done)
  all_goals
   rename_i h1 h2 h3;simp only [Option.some.injEq,Prod.mk.injEq] at h;obtain ⟨rfl,_⟩:=h
  ·rw [h1,h2,h3] at hc;simp only [Bool.and_eq_true,decide_eq_true_eq] at hc;exact ⟨Nat.eq_of_beq_eq_true hc.1,hc.2.1,hc.2.2.1,d4 hc.2.2.2⟩
  ·rw [h1,h2,h3] at hc;simp only [Bool.and_eq_true,decide_eq_true_eq] at hc;exact ⟨Nat.eq_of_beq_eq_true hc.1,hc.2.1,hc.2.2⟩
  ·rw [h1,h2,h3] at hc;simp only [Bool.and_eq_true,decide_eq_true_eq] at hc;exact ⟨hc.1,hc.2.1,d4 hc.2.2⟩
  rw [h1,h2,h3] at hc;simp only [Bool.and_eq_true,decide_eq_true_eq] at hc;exact hc
 case load t y=>
  split at h<;>try (cases h;done)
  ·rename_i h1 h2;rw [h1,h2] at hc;split at h<;>try (cases h;done)
   rename_i B hB;simp only [hB,Bool.and_eq_true,decide_eq_true_eq] at hc;simp only [Option.some.injEq,Prod.mk.injEq] at h;obtain ⟨rfl,_⟩:=h;exact ⟨Nat.eq_of_beq_eq_true hc.1,hc.2.1,C0 hc.2.2⟩
  rename_i h1 h2;rw [h1,h2] at hc;simp only [Bool.and_eq_true,decide_eq_true_eq] at hc;simp only [Option.some.injEq,Prod.mk.injEq] at h;obtain ⟨rfl,_⟩:=h;exact ⟨hc.1,C0 hc.2⟩
 case nilCheck y=>
  split at h<;>try (cases h;done)
  ·rename_i h1;rw [h1] at hc;simp only [Option.some.injEq,Prod.mk.injEq] at h;rw [←h.1];exact d4 hc
  simp only [Option.some.injEq,Prod.mk.injEq] at h;rw [←h.1];trivial
end
def Bd (P:Program) (t:TypeId):Bool:=match P.underlying t with
 |some .bool=>true
 |_=>false
theorem BM {P:Program} {t:TypeId} (h:Bd P t=true):P.underlying t=some .bool:=by
 unfold Bd at h;split at h
 ·assumption
 cases h
def AI (P:Program) (t:TypeId):Bool:=match P.underlying t with
 |some .string=>true
 |_=>false
theorem q9 {P:Program} {t:TypeId} (h:AI P t=true):P.underlying t=some .string:=by
 unfold AI at h;split at h
 ·assumption
 cases h
def Cf (P:Program) (op:BinOp) (t:TypeId):Value->Value->Bool
 | .int k a,.int _ b=>match op with
  | .shl=>decide (0<=b)
  | .shr=>decide (0<=b)
  | .add=> !(v6 k)||inB (a+b)
  | .sub=> !(v6 k)||inB (a-b)
  | .mul=> !(v6 k)||inB (a*b)
  | .quo=> !(decide (b=0))
  | .rem=> !(decide (b=0))
  |_=>true
 | .bool _,.bool _=>Bd P t
 |_,_=>true
section
variable {P : Program} {st : St} {p : Prop} {x : AV}
theorem Cg {k:IntKind} {n:Int} {β:Type} {v v' x':β} {q:Prop} (hc:(!(v6 k)||inB n)=true) (h:(if k= .i64 then some (inK k n,v) else some (True,v'))=some (q,x')):q:=by
 split at h
 ·rename_i hk;subst hk;simp only [Option.some.injEq,Prod.mk.injEq] at h;rw [←h.1];exact CZ (by simpa [v6] using hc)
 simp only [Option.some.injEq,Prod.mk.injEq] at h;rw [←h.1];trivial
theorem C3 {op:BinOp} {t:TypeId} {u v r:Value} (hc:Cf P op t u v=true) (h:kF P op t u v=some (p,r)):p:=by
 cases u<;>try (simp only [kF] at h;cases h;done)
 ·cases v<;>try (simp only [kF] at h;cases h;done)
  simp only [Cf] at hc;cases op<;>simp only [kF] at h<;>try (cases h;done)
  all_goals
   simp only [Option.some.injEq,Prod.mk.injEq] at h;rw [←h.1];exact BM hc
 ·cases v<;>try (simp only [kF] at h;cases h;done)
  cases op<;>simp only [kF,Cf,decide_eq_true_eq,Bool.not_eq_true',decide_eq_false_iff_not] at h hc;all_goals try (simp only [Option.some.injEq,Prod.mk.injEq] at h;rw [←h.1];first|exact hc|trivial)
  all_goals (split at h;· cases h)
  all_goals first
   |exact Cg hc h
   |(simp only [Option.some.injEq,Prod.mk.injEq] at h;rw [←h.1];first|exact hc|trivial)
   |cases h
 cases v<;>try (simp only [kF] at h;cases h;done)
 cases op<;>simp only [kF] at h<;>try (cases h;done)
 all_goals (simp only [Option.some.injEq,Prod.mk.injEq] at h;rw [←h.1];trivial)
end
def l6 (st:St):Option Operand->Bool
 |none=>true
 |some x=>match ev st x with
  | .val (.one (.lit (.int _ i)))=>decide (0<=i)
  |_=>false
theorem dr {st:St} {x:Option Operand} {d n:Nat} {p:Prop} (hc:l6 st x=true) (h:bnd st x d=some (p,n)):p:=by
 unfold bnd at h;split at h
 ·simp only [Option.some.injEq,Prod.mk.injEq] at h;rw [←h.1];trivial
 rename_i y;simp only [l6] at hc;split at h<;>try (cases h;done)
 rename_i he;rw [he] at hc;simp only [Option.some.injEq,Prod.mk.injEq] at h;rw [←h.1];exact of_decide_eq_true hc
def AJ (place:Nat->Option (Nat×Nat)):List C->List (Nat×AV)->Bool
 |_,[]=>true
 |cs,(i,x)::rest=>match place i,cellsOf x with
  |some (off,size),some ds=>Nat.beq ds.length size&&(decide (off+size<=cs.length)&&AJ place (spl cs off ds) rest)
  |_,_=>false
theorem rk {place:Nat->Option (Nat×Nat)}:∀{parts:List (Nat×AV)} {cs r:List C} {p:Prop},AJ place cs parts=true->j6 place cs parts=some (p,r)->p
 |[],cs,r,p,_,h=>by
  simp only [j6,Option.some.injEq,Prod.mk.injEq] at h;rw [←h.1];trivial
 |(i,x)::rest,cs,r,p,hc,h=>by
  simp only [j6] at h;simp only [AJ] at hc;split at h<;>try (cases h;done)
  rename_i off size ds h1 h2;rw [h1,h2] at hc;simp only [Bool.and_eq_true,decide_eq_true_eq] at hc;split at h<;>try (cases h;done)
  rename_i q r' h3;simp only [Option.some.injEq,Prod.mk.injEq] at h;rw [←h.1];exact ⟨⟨Nat.eq_of_beq_eq_true hc.1,hc.2.1⟩,rk hc.2.2 h3⟩
def Ch (P:Program) (eqT:TypeId->List Value->List Value->Bool) (st:St):Op->Bool
 | .move _=>true
 | .assign _=>true
 | .pick .. =>true
 | .field xt x f=>match ev st x,foT P xt f with
  | .val (.agg cs),some (o,ft)=>match ldT P ft with
   |some (ag,sz)=>decide (o+sz<=cs.length)&&(ag||Nat.beq sz 1)
   |none=>false
  |_,_=>false
 | .extract .. =>true
 | .binOp op t x y _=>match ev st x,ev st y with
  | .val (.one (.lit u)),.val (.one (.lit v))=>Cf P op t u v
  | .val (.agg xs),.val (.agg ys)=>match d7 xs,d7 ys with
   |some us,some vs=>eqT t us vs
   |_,_=>false
  |_,_=>false
 | .unOp .not _ _=>true
 | .unOp .neg _ x=>match ev st x with
  | .val (.one (.lit (.int k n)))=> !(v6 k)||inB (0-n)
  |_=>false
 | .convert s d x=>match ev st x,P.underlying d with
  | .val (.one (.lit (.int _ n))),some (.int k)=>(!(v6 k)||inB n)&&(P.underlying s).isSome
  |_,_=>false
 | .index t x ix=>match ev st x,ev st ix with
  | .val (.one (.lit (.string s))),.val (.one (.lit (.int _ i)))=>AI P t&&(decide (0<=i)&&decide (i<s.size))
  | .val (.agg cs),.val (.one (.lit (.int _ i)))=>match arT P t with
   |some (n,e,sz)=>match ldT P e with
    |some (ag,sz')=>decide (0<=i)&&(decide (i<n)&&(Nat.beq sz' sz&&(decide (i.toNat*sz+sz<=cs.length)&&(ag||Nat.beq sz 1))))
    |none=>false
   |none=>false
  |_,_=>false
 | .slice t x lo hi none=>match ev st x with
  | .val (.one (.sh sz n _))=>match elT P t,bnd st lo 0,bnd st hi n with
   |some (_,sz',_),some (_,l),some (_,h)=>Nat.beq sz sz'&&(l6 st lo&&(l6 st hi&&(decide (l<=h)&&decide (h<=n))))
   |_,_,_=>false
  | .val (.one (.lit (.string s)))=>match bnd st lo 0,bnd st hi s.size with
   |some (_,l),some (_,h)=>AI P t&&(l6 st lo&&(l6 st hi&&(decide (l<=h)&&decide (h<=s.size))))
   |_,_=>false
  |_=>false
 |_=>false
section
variable {P : Program} {eqT : TypeId → List Value → List Value → Bool} {st : St} {p : Prop} {x : AV}
theorem Bu (heq:∀t us vs,eqT t us vs=true->zg P t us vs) {op:Op} (hc:Ch P eqT st op=true) (h:jl P st op=some (p,x)):p:=by
 cases op<;>simp only [Ch,jl,reduceCtorEq] at hc h;case move=>simp only [Option.some.injEq,Prod.mk.injEq] at h;rw [←h.1];trivial
 case assign=>simp only [Option.some.injEq,Prod.mk.injEq] at h;rw [←h.1];trivial
 case pick=>
  split at h<;>try (cases h;done)
  simp only [Option.some.injEq,Prod.mk.injEq] at h;rw [←h.1];trivial
 case field xt y f=>
  split at h<;>try (cases h;done)
  rename_i h1 h2;rw [h1,h2] at hc;split at h<;>try (cases h;done)
  rename_i h3;simp only [h3,Bool.and_eq_true,decide_eq_true_eq] at hc;simp only [Option.some.injEq,Prod.mk.injEq] at h;rw [←h.1];exact ⟨hc.1,C0 hc.2⟩
 case extract=>
  split at h<;>try (cases h;done)
  split at h<;>try (cases h;done)
  simp only [Option.some.injEq,Prod.mk.injEq] at h;rw [←h.1];trivial
 case binOp op t y z yt=>
  split at h<;>try (cases h;done)
  ·rename_i u v h1 h2;rw [h1,h2] at hc;split at h<;>try (cases h;done)
   rename_i q r h3;simp only [Option.some.injEq,Prod.mk.injEq] at h;rw [←h.1];exact C3 hc h3
  rename_i xs ys h1 h2;rw [h1,h2] at hc;split at h<;>try (cases h;done)
  rename_i us vs h3 h4;simp only [h3,h4] at hc;split at h<;>try (cases h;done)
  ·simp only [Option.some.injEq,Prod.mk.injEq] at h;rw [←h.1];exact heq _ _ _ hc
  simp only [Option.some.injEq,Prod.mk.injEq] at h;rw [←h.1];exact heq _ _ _ hc
 case unOp op t y=>
  cases op<;>simp only [reduceCtorEq] at hc h
  ·split at h<;>try (cases h;done)
   rename_i h1;rw [h1] at hc;exact Cg hc h
  split at h<;>try (cases h;done)
  simp only [Option.some.injEq,Prod.mk.injEq] at h;rw [←h.1];trivial
 case convert s d y=>
  split at h<;>try (cases h;done)
  rename_i k0 n k h1 h2;rw [h1,h2] at hc;simp only [Bool.and_eq_true] at hc;split at h
  ·rename_i hk;subst hk;simp only [Option.some.injEq,Prod.mk.injEq] at h;rw [←h.1];exact ⟨CZ (by simpa [v6] using hc.1),hc.2⟩
  simp only [Option.some.injEq,Prod.mk.injEq] at h;rw [←h.1];exact hc.2
 case index t y ix=>
  split at h<;>try (cases h;done)
  ·rename_i h1 h2;rw [h1,h2] at hc;simp only [Bool.and_eq_true,decide_eq_true_eq] at hc;simp only [Option.some.injEq,Prod.mk.injEq] at h;rw [←h.1];exact ⟨q9 hc.1,hc.2.1,hc.2.2⟩
  rename_i h1 h2;rw [h1,h2] at hc;split at h<;>try (cases h;done)
  rename_i h3;split at h<;>try (cases h;done)
  rename_i h4;simp only [h3,h4,Bool.and_eq_true,decide_eq_true_eq] at hc;simp only [Option.some.injEq,Prod.mk.injEq] at h;rw [←h.1];exact ⟨hc.1,hc.2.1,Nat.eq_of_beq_eq_true hc.2.2.1,hc.2.2.2.1,C0 hc.2.2.2.2⟩
 case slice t y lo hi mx=>
  cases mx<;>simp only [reduceCtorEq] at hc h;split at h<;>try (cases h;done)
  ·rename_i h1;rw [h1] at hc;split at h<;>try (cases h;done)
   rename_i h2 h3 h4;simp only [h2,h3,h4,Bool.and_eq_true,decide_eq_true_eq] at hc;simp only [Option.some.injEq,Prod.mk.injEq] at h;rw [←h.1];exact ⟨Nat.eq_of_beq_eq_true hc.1,dr hc.2.1 h3,dr hc.2.2.1 h4,hc.2.2.2.1,hc.2.2.2.2⟩
  rename_i h1;rw [h1] at hc;split at h<;>try (cases h;done)
  rename_i h3 h4;simp only [h3,h4,Bool.and_eq_true,decide_eq_true_eq] at hc;simp only [Option.some.injEq,Prod.mk.injEq] at h;rw [←h.1];exact ⟨q9 hc.1,dr hc.2.1 h3,dr hc.2.2.1 h4,hc.2.2.2.1,hc.2.2.2.2⟩
end
def C4 (P:Program) (st:St) (c:Call):Bool:=match c.args.toList,c.argTypes.toList with
 |[x],[t]=>match ev st x with
  | .val (.one (.lit (.string _)))=>AI P t
  | .val (.one (.own nm s' _ sz))=> !(Nat.beq sz 0)&&AH st nm s'
  |_=>true
 |_,_=>false
def ckB (P:Program) (eqT:TypeId->List Value->List Value->Bool) (st:St) (op:Op):Bool:=match op with
 | .build t parts=>match zrT P t,plT P t with
  |some zs,some ps=>AJ (fun i=>ps[i]?) (zs.map .lit) (parts.toList.map fun q=>(q.1,ev st q.2))
  |_,_=>false
 | .lookup .. =>false
 | .slice t x lo hi none=>(match ev st x with
  | .val (.one (.lit (.slice none 0 0)))=>match bnd st lo 0,bnd st hi 0 with
   |some (_,l),some (_,h)=>l6 st lo&&(l6 st hi&&(Nat.beq l 0&&Nat.beq h 0))
   |_,_=>false
  |_=>Ch P eqT st (.slice t x lo hi none))
 | .call {callee:= .builtin .cap,..}=>true
 | .call {callee:= .builtin .min,..}=>true
 | .call {callee:= .builtin .max,..}=>true
 | .call {callee:= .builtin .len,args,argTypes}=>C4 P st {callee:= .builtin .len,args,argTypes}
 | .fieldAddr s x f=>qL P st (.fieldAddr s x f)
 | .indexAddr t x i=>qL P st (.indexAddr t x i)
 | .load t x=>qL P st (.load t x)
 | .nilCheck x=>qL P st (.nilCheck x)
 |op=>Ch P eqT st op
section
variable {P : Program} {eqT : TypeId → List Value → List Value → Bool} {st : St} {p : Prop} {x : AV}
theorem C5 {args:Array Operand} {argTypes:Array TypeId} (hc:C4 P st {callee:= .builtin .len,args,argTypes}=true) (h:io P st {callee:= .builtin .len,args,argTypes}=some (p,x)):p:=by
 simp only [io] at h;simp only [C4] at hc;split at h<;>try (cases h;done)
 rename_i y t h1 h2;simp only [h1,h2] at hc;split at h
 ·rename_i h3;rw [h3] at hc;simp only [Option.some.injEq,Prod.mk.injEq] at h;rw [←h.1];exact q9 hc
 split at h<;>try (cases h;done)
 simp only [Option.some.injEq,Prod.mk.injEq] at h;rw [←h.1];split
 ·rename_i h3;rw [h3] at hc;simp only [Bool.and_eq_true,Bool.not_eq_true'] at hc;refine ⟨fun h0=>?_,d4 hc.2⟩;subst h0;exact absurd hc.1 (by decide)
 trivial
theorem DZ (heq:∀t us vs,eqT t us vs=true->zg P t us vs) {op:Op} (hc:ckB P eqT st op=true) (h:d8 P st op=some (p,x)):p:=by
 unfold d8 at h;split at h
 ·unfold gx at h;simp only [ckB] at hc;split at h<;>try (cases h;done)
  rename_i h1 h2;simp only [h1,h2] at hc;split at h<;>try (cases h;done)
  rename_i h3;simp only [Option.some.injEq,Prod.mk.injEq] at h;rw [←h.1];exact rk hc h3
 ·simp [ckB] at hc
 ·rename_i t y lo hi;simp only [ckB] at hc;unfold orS at h;split at h
  ·rename_i r hn;obtain rfl:=Option.some.inj h;unfold jp at hn;split at hn<;>try (cases hn;done)
   rename_i h1 h2 h3 h4;simp only [h1,h3,h4,Bool.and_eq_true] at hc;simp only [Option.some.injEq,Prod.mk.injEq] at hn;rw [←hn.1];exact ⟨dr hc.1 h3,dr hc.2.1 h4,Nat.eq_of_beq_eq_true hc.2.2.1,Nat.eq_of_beq_eq_true hc.2.2.2⟩
  have h':jl P st (.slice t y lo hi none)=some (p,x):=h;split at hc
  ·rename_i he;simp only [jl,he] at h';cases h'
  exact Bu heq hc h'
 ·unfold jn at h;split at h<;>try (cases h;done)
  split at h<;>try (cases h;done)
  simp only [Option.some.injEq,Prod.mk.injEq] at h;rw [←h.1];trivial
 ·unfold jo at h;split at h<;>try (cases h;done)
  split at h<;>try (cases h;done)
  simp only [Option.some.injEq,Prod.mk.injEq] at h;rw [←h.1];trivial
 ·unfold jo at h;split at h<;>try (cases h;done)
  split at h<;>try (cases h;done)
  simp only [Option.some.injEq,Prod.mk.injEq] at h;rw [←h.1];trivial
 rename_i h1 h2 h3 h4 h5 h6;cases op with
 |call c=>
  obtain ⟨callee,args,argTypes⟩:=c;have h0:=h;simp only [og,io] at h0;split at h0<;>try (cases h0;done)
  exact C5 hc h
 |build t ps=>exact (h1 t ps rfl).elim
 |lookup t m k ok=>exact (h2 t m k ok rfl).elim
 |slice t y lo hi mx=>
  cases mx with
  |none=>exact (h3 t y lo hi rfl).elim
  |some mx=>
   simp only [og,jl,reduceCtorEq] at h
 |_=>
  simp only [ckB] at hc;simp only [og] at h;first
   |exact CB hc h
   |exact Bu heq hc h
end
end Go.Proofs.YtcgpghifhehlhaaGreatDoor
