/- The example of the chapter on payments back: it answers true; walked by the abstract machine. -/
import Derived.Test.YtcgpghifhehlhaaGreatDoorAw28sM
import Derived.Test.YtcgpghifhehlhaaGreatDoorGu1M
import Derived.Test.YtcgpghifhehlhaaGreatDoorAbZM
import Derived.Test.YtcgpghifhehlhaaGreatDoorAbUM
import Derived.Test.YtcgpghifhehlhaaGreatDoorAbBM
import Derived.Test.YtcgpghifhehlhaaGreatDoorCb5M
import Derived.Test.YtcgpghifhehlhaaGreatDoorEqsM
set_option linter.unusedVariables false
set_option maxHeartbeats 4000000
set_option maxRecDepth 100000
set_option linter.unusedSimpArgs false
set_option linter.defProp false
namespace Go.Proofs.YtcgpghifhehlhaaGreatDoor
open Go Go.RowKit Go.Proofs.Tryz
theorem Ej (n:Nat) (h:n<=1000) (he:cS (enc (((n:Nat):Int):Rat))=w9 n):ch prog 12 [.one (.lit (.int .i64 (n:Int)))] (.val (.agg (w9 n))):=by
 have h1:=fG (n:Int) (by omega) (by omega);rw [he] at h1;exact h1
theorem Cu (n:Nat):oc [.bool false,.string (cB n),.string cc] [.bool false,.string (cB n),.string cc]=true:=by simp [oc,eqV]
def F36:=And.intro zS (And.intro xf (And.intro xg (And.intro xh (And.intro yB (And.intro jS (And.intro jT (And.intro yC (And.intro yD (And.intro jU (And.intro tB (And.intro mf (And.intro tf0 (And.intro xi (And.intro yE (And.intro yF (And.intro zw (And.intro I0 (And.intro u9 (And.intro yG (And.intro zA (And.intro zB (pn))))))))))))))))))))))
theorem F37:type_of%F36:=F36
theorem vE:ch prog 19 [] (one (.bool true)):=by
 have hW10:=Ej 10 (by decide) (by kernel_rfl);have hW20:=Ej 20 (by decide) (by kernel_rfl);have hW30:=Ej 30 (by decide) (by kernel_rfl);have hRv:=Eh;have hSo:=Ei;simp only [w9,cl9,bf,x9,s9,g9,r9,List.cons_append,List.nil_append] at hW10 hW20 hW30 hRv hSo;refine bF func19 rfl (by decide) (N:=68) rfl (by simp) (R:=[.tmp 0]) rfl fun en k0=>?_
 refine awN ?_;simp only [F37,seval,w9,cl9,bf,x9,s9,g9,r9,List.cons_append,List.nil_append];repeat refine ob ?_
 refine awN ?_;simp only [F37,seval,w9,cl9,bf,x9,s9,g9,r9,List.cons_append,List.nil_append];repeat refine ob ?_
 refine ⟨_,hW10,rfl,?_⟩;try simp only [aq,F37,seval,w9,cl9,bf,x9,s9,g9,r9,List.cons_append,List.nil_append]
 repeat refine ob ?_
 refine ⟨_,hW30,rfl,?_⟩;try simp only [aq,F37,seval,w9,cl9,bf,x9,s9,g9,r9,List.cons_append,List.nil_append]
 repeat refine ob ?_
 refine ao 9 11 3 (by rfl) (by rfl) (by rfl) (by decide) (by show (5:Nat)≠0;decide) (by show (5:Nat)≠0;decide) rfl ?_;simp only [F37,seval];refine ao 11 1 0 (by rfl) (by rfl) (by rfl) (by decide) (by show (5:Nat)≠0;decide) (by show (2:Nat)≠0;decide) rfl ?_;simp only [F37,seval];repeat' first|apply awS|apply awB
 refine lI [18] (by kernel_rfl) (.cons 0 true (.two 1 8 (.cons 2 true (.two 3 8 (.two 4 8 (.cons 5 true (.cons 6 true (.cons 7 true (.cons 8 false (.cons 9 false (.cons 10 true .nil)))))) (.cons 4 false (.cons 5 true (.cons 6 true (.cons 7 true (.cons 9 false (.cons 10 true .nil))))))) (.cons 3 false (.cons 4 false (.cons 5 true (.cons 6 true (.cons 7 true (.cons 9 false (.cons 10 true .nil))))))))) (.cons 1 false (.cons 2 true (.cons 3 false (.cons 4 false (.cons 5 true (.cons 6 true (.cons 7 true (.cons 9 false (.cons 10 true .nil))))))))))) (by kernel_rfl) (gs:=[none,none,none,none,none,none,none,none,none,none,none]) (by kernel_rfl) (by simp only [zT,seval];rfl) (by decide) ?_;simp only [F37,seval,w9,cl9,bf,x9,s9,g9,r9,List.cons_append,List.nil_append,(id SD),(id SD)];repeat refine ob ?_
 refine ⟨?_,?_⟩
 ·repeat refine ob ?_
  refine ⟨_,hW30,rfl,?_⟩;try simp only [aq,F37,seval,w9,cl9,bf,x9,s9,g9,r9,List.cons_append,List.nil_append,(id SD)]
  repeat refine ob ?_
  refine ⟨?_,?_⟩
  ·repeat refine ob ?_
   refine ⟨?_,?_⟩
   ·repeat refine ob ?_
    refine ⟨_,d6 (nm:=17) hRv (by simp [bu,aI,av,az,A1.cells]) (by simp [aI,av,az,A1.cells]) (fun e σ w vs hW hx hd=>?_),?_⟩
    ·obtain ⟨v1,vs1,rfl,d1,hd1⟩:=cC hd;obtain ⟨v2,vs2,rfl,d2,hd2⟩:=cC hd1;exact ⟨n8 hx d1,qx hW d2 rfl rfl (by show (6:Nat)≠0;decide),(by cases vs2 with|nil=>exact trivial|cons v vs=>exact hd2.elim)⟩
    rintro res H' nx' ⟨rfl,rfl,rfl⟩;simp only [F37,seval,(id SD)];repeat refine ob ?_
    refine awN ?_;simp only [F37,seval,w9,cl9,bf,x9,s9,g9,r9,List.cons_append,List.nil_append];repeat refine ob ?_
    refine ⟨_,hSo,rfl,?_⟩;try simp only [aq,F37,seval,w9,cl9,bf,x9,s9,g9,r9,List.cons_append,List.nil_append]
    repeat refine ob ?_
    have hq:=qg ⟨false,cB 20,cc⟩ ⟨false,cB 20,cc⟩;have hqv:=Cu 20;refine awD (scT 0 29 (scq [58] (scT 30 9 (scq [78,81,83,85] .nil)))) [0,0,0,59,59,0,0,0,0,71,71,71,71,0,0,83,83,83,83,83,83,0,0,99,99,99,99,99,99,99,99,0,0,119,119,119,119,119,119,119,119,0,0] ?_;simp only [F37,seval,w9,cl9,bf,x9,s9,g9,r9,List.cons_append,List.nil_append,hqv,BEq.rfl,decide_true];repeat refine ob ?_
    refine ⟨_,hW20,rfl,?_⟩;try simp only [aq,F37,seval,w9,cl9,bf,x9,s9,g9,r9,List.cons_append,List.nil_append,hqv,BEq.rfl,decide_true]
    repeat refine ob ?_
    try refine ⟨hq,?_⟩
    repeat refine ob ?_
    refine ⟨_,hW20,rfl,?_⟩;try simp only [aq,F37,seval,w9,cl9,bf,x9,s9,g9,r9,List.cons_append,List.nil_append,hqv,BEq.rfl,decide_true]
    repeat refine ob ?_
    try refine ⟨hq,?_⟩
    repeat refine ob ?_
    refine awX ?_;(first|(simp only [F37,seval,w9,cl9,bf,x9,s9,g9,r9,List.cons_append,List.nil_append];done)|(simp only [F37,seval,w9,cl9,bf,x9,s9,g9,r9,List.cons_append,List.nil_append];first|(simp [];done)))
   repeat refine ob ?_
   refine ⟨_,d6 (nm:=17) hRv (by simp [bu,aI,av,az,A1.cells]) (by simp [aI,av,az,A1.cells]) (fun e σ w vs hW hx hd=>?_),?_⟩
   ·obtain ⟨v1,vs1,rfl,d1,hd1⟩:=cC hd;obtain ⟨v2,vs2,rfl,d2,hd2⟩:=cC hd1;exact ⟨n8 hx d1,qx hW d2 rfl rfl (by show (6:Nat)≠0;decide),(by cases vs2 with|nil=>exact trivial|cons v vs=>exact hd2.elim)⟩
   rintro res H' nx' ⟨rfl,rfl,rfl⟩;simp only [F37,seval,(id SD)];repeat refine ob ?_
   refine awN ?_;simp only [F37,seval,w9,cl9,bf,x9,s9,g9,r9,List.cons_append,List.nil_append];repeat refine ob ?_
   refine ⟨_,hSo,rfl,?_⟩;try simp only [aq,F37,seval,w9,cl9,bf,x9,s9,g9,r9,List.cons_append,List.nil_append]
   repeat refine ob ?_
   have hq:=qg ⟨false,cB 20,cc⟩ ⟨false,cB 20,cc⟩;have hqv:=Cu 20;refine awD (scT 0 29 (scq [58] (scT 30 9 (scq [78,81,83,85] .nil)))) [0,0,0,59,59,0,0,0,0,71,71,71,71,0,0,83,83,83,83,83,83,0,0,99,99,99,99,99,99,99,99,0,0,119,119,119,119,119,119,119,119,0,0] ?_;simp only [F37,seval,w9,cl9,bf,x9,s9,g9,r9,List.cons_append,List.nil_append,hqv,BEq.rfl,decide_true];repeat refine ob ?_
   refine ⟨_,hW20,rfl,?_⟩;try simp only [aq,F37,seval,w9,cl9,bf,x9,s9,g9,r9,List.cons_append,List.nil_append,hqv,BEq.rfl,decide_true]
   repeat refine ob ?_
   try refine ⟨hq,?_⟩
   repeat refine ob ?_
   refine ⟨_,hW20,rfl,?_⟩;try simp only [aq,F37,seval,w9,cl9,bf,x9,s9,g9,r9,List.cons_append,List.nil_append,hqv,BEq.rfl,decide_true]
   repeat refine ob ?_
   try refine ⟨hq,?_⟩
   repeat refine ob ?_
   refine awX ?_;(first|(simp only [F37,seval,w9,cl9,bf,x9,s9,g9,r9,List.cons_append,List.nil_append];done)|(simp only [F37,seval,w9,cl9,bf,x9,s9,g9,r9,List.cons_append,List.nil_append];first|(simp [];done)))
  repeat refine ob ?_
  refine ⟨_,d6 (nm:=17) hRv (by simp [bu,aI,av,az,A1.cells]) (by simp [aI,av,az,A1.cells]) (fun e σ w vs hW hx hd=>?_),?_⟩
  ·obtain ⟨v1,vs1,rfl,d1,hd1⟩:=cC hd;obtain ⟨v2,vs2,rfl,d2,hd2⟩:=cC hd1;exact ⟨n8 hx d1,qx hW d2 rfl rfl (by show (6:Nat)≠0;decide),(by cases vs2 with|nil=>exact trivial|cons v vs=>exact hd2.elim)⟩
  rintro res H' nx' ⟨rfl,rfl,rfl⟩;simp only [F37,seval,(id SD)];repeat refine ob ?_
  refine awN ?_;simp only [F37,seval,w9,cl9,bf,x9,s9,g9,r9,List.cons_append,List.nil_append];repeat refine ob ?_
  refine ⟨_,hSo,rfl,?_⟩;try simp only [aq,F37,seval,w9,cl9,bf,x9,s9,g9,r9,List.cons_append,List.nil_append]
  repeat refine ob ?_
  have hq:=qg ⟨false,cB 20,cc⟩ ⟨false,cB 20,cc⟩;have hqv:=Cu 20;refine awD (scT 0 29 (scq [58] (scT 30 9 (scq [78,81,83,85] .nil)))) [0,0,0,59,59,0,0,0,0,71,71,71,71,0,0,83,83,83,83,83,83,0,0,99,99,99,99,99,99,99,99,0,0,119,119,119,119,119,119,119,119,0,0] ?_;simp only [F37,seval,w9,cl9,bf,x9,s9,g9,r9,List.cons_append,List.nil_append,hqv,BEq.rfl,decide_true];repeat refine ob ?_
  refine ⟨_,hW20,rfl,?_⟩;try simp only [aq,F37,seval,w9,cl9,bf,x9,s9,g9,r9,List.cons_append,List.nil_append,hqv,BEq.rfl,decide_true]
  repeat refine ob ?_
  try refine ⟨hq,?_⟩
  repeat refine ob ?_
  refine ⟨_,hW20,rfl,?_⟩;try simp only [aq,F37,seval,w9,cl9,bf,x9,s9,g9,r9,List.cons_append,List.nil_append,hqv,BEq.rfl,decide_true]
  repeat refine ob ?_
  try refine ⟨hq,?_⟩
  repeat refine ob ?_
  refine awX ?_;(first|(simp only [F37,seval,w9,cl9,bf,x9,s9,g9,r9,List.cons_append,List.nil_append];done)|(simp only [F37,seval,w9,cl9,bf,x9,s9,g9,r9,List.cons_append,List.nil_append];first|(simp [];done)))
 repeat refine ob ?_
 refine ⟨_,hW30,rfl,?_⟩;try simp only [aq,F37,seval,w9,cl9,bf,x9,s9,g9,r9,List.cons_append,List.nil_append,(id SD)]
 repeat refine ob ?_
 refine ⟨_,d6 (nm:=17) hRv (by simp [bu,aI,av,az,A1.cells]) (by simp [aI,av,az,A1.cells]) (fun e σ w vs hW hx hd=>?_),?_⟩
 ·obtain ⟨v1,vs1,rfl,d1,hd1⟩:=cC hd;obtain ⟨v2,vs2,rfl,d2,hd2⟩:=cC hd1;exact ⟨n8 hx d1,qx hW d2 rfl rfl (by show (6:Nat)≠0;decide),(by cases vs2 with|nil=>exact trivial|cons v vs=>exact hd2.elim)⟩
 rintro res H' nx' ⟨rfl,rfl,rfl⟩;simp only [F37,seval,(id SD)];repeat refine ob ?_
 refine awN ?_;simp only [F37,seval,w9,cl9,bf,x9,s9,g9,r9,List.cons_append,List.nil_append];repeat refine ob ?_
 refine ⟨_,hSo,rfl,?_⟩;try simp only [aq,F37,seval,w9,cl9,bf,x9,s9,g9,r9,List.cons_append,List.nil_append]
 repeat refine ob ?_
 have hq:=qg ⟨false,cB 20,cc⟩ ⟨false,cB 20,cc⟩;have hqv:=Cu 20;refine awD (scT 0 29 (scq [58] (scT 30 9 (scq [78,81,83,85] .nil)))) [0,0,0,59,59,0,0,0,0,71,71,71,71,0,0,83,83,83,83,83,83,0,0,99,99,99,99,99,99,99,99,0,0,119,119,119,119,119,119,119,119,0,0] ?_;simp only [F37,seval,w9,cl9,bf,x9,s9,g9,r9,List.cons_append,List.nil_append,hqv,BEq.rfl,decide_true];repeat refine ob ?_
 refine ⟨_,hW20,rfl,?_⟩;try simp only [aq,F37,seval,w9,cl9,bf,x9,s9,g9,r9,List.cons_append,List.nil_append,hqv,BEq.rfl,decide_true]
 repeat refine ob ?_
 try refine ⟨hq,?_⟩
 repeat refine ob ?_
 refine ⟨_,hW20,rfl,?_⟩;try simp only [aq,F37,seval,w9,cl9,bf,x9,s9,g9,r9,List.cons_append,List.nil_append,hqv,BEq.rfl,decide_true]
 repeat refine ob ?_
 try refine ⟨hq,?_⟩
 repeat refine ob ?_
 refine awX ?_;(first|(simp only [F37,seval,w9,cl9,bf,x9,s9,g9,r9,List.cons_append,List.nil_append];done)|(simp only [F37,seval,w9,cl9,bf,x9,s9,g9,r9,List.cons_append,List.nil_append];first|(simp [];done)))
theorem I4 {P:Program} {t:TypeId} {α:Type} {R:dW α} {H:Type} {enc:TypeId×Value->H} {W:World} {v:Value} {d:DataW H} {p:List MemPlace} {base:Nat} {rc:Reach}
  (ht:P.underlying t=some .bool) (hok:Value.okWide P W rc base t v) (ho:fD P t R) (h:DataW.Trod enc P W 0 (fun _=>true) true t v d p):∃l,R W (LT W.heap.size) [v] l:=by
 obtain ⟨b,rfl⟩:=Go.WideShapes.okWide_bool ht hok;obtain ⟨fuel,h⟩:=h;exact ho H enc W fuel _ _ h
def dA (i:Nat):Dem:=⟨0,i,0,1⟩
def dB (same:Bool) (i:Nat):Dem:=⟨0,if same=true then (i:Int) else 100+(i:Int),0,2⟩
def aN (k:Nat):List Dem:=(List.range k).map dA
def bN (same:Bool) (k:Nat):List Dem:=(List.range k).map (dB same)
theorem I8 (k:Nat):(aN k).length=k:=by simp [aN]
theorem I9 (same:Bool) (k:Nat):(bN same k).length=k:=by simp [bN]
theorem Jc (k:Nat):ar dn (aN k)++dn (dA k)=ar dn (aN (k+1)):=by
 unfold aN;rw [List.range_succ,List.map_append,aV];simp [aY,ej]
theorem Ja (same:Bool) (k:Nat):ar dn (bN same k)++dn (dB same k)=ar dn (bN same (k+1)):=by
 unfold bN;rw [List.range_succ,List.map_append,aV];simp [aY,ej]
def F38:=And.intro zS (And.intro pj (And.intro xd (And.intro u6 (And.intro pi (And.intro pl (And.intro u7 (And.intro nK (tx))))))))
theorem F39:type_of%F38:=F38
theorem Jd (na mb:Nat) (same:Bool) (hn:na<256) (hm:mb<256):ch prog 8 [.one (.lit (.int .u8 na)),.one (.lit (.int .u8 mb)),.one (.lit (.bool same))] (one (.bool true)):=by
 have w1:((na:Nat):Int).tmod 70=((na%70:Nat):Int):=Br na 70;have w2:((mb:Nat):Int).tmod 70=((mb%70:Nat):Int):=Br mb 70;have hN9:na%70<70:=Nat.mod_lt _ (by decide);have hM9:mb%70<70:=Nat.mod_lt _ (by decide);generalize na%70=N9 at *
 generalize mb%70=M9 at *
 refine bF func8 rfl (by decide) (N:=69) rfl (by simp) (R:=[.tmp 6]) rfl fun en k0=>?_
 refine awN ?_;simp only [F39,seval];repeat refine ob ?_
 refine awN ?_;simp only [F39,seval];repeat refine ob ?_
 refine awN ?_;simp only [F39,seval];repeat refine ob ?_
 refine rS 7 27 88 4 (by decide) (by rfl) ?_;simp only [F39,seval];refine aQ [0,1,2,7,8,9] [27] ?_;try simp only [aq,F39,seval]
 repeat' first|apply awS|apply awB
 refine aB (fun n st=>∃k s nx,k<=N9/\n=N9-k/\st=⟨mkT [(0,one (.int .u8 na)),(1,one (.int .u8 mb)),(2,one (.bool same)),(7,.val (.one (.own 27 s k 4))),(8,one (.slice none 0 0)),(9,one (.int .i64 k))],mkH [(27,⟨s,88,4,k,ar dn (aN k)⟩)],nx,0⟩) (N9) ⟨0,_,_,by omega,by omega,rfl⟩ ?_;rintro n0 st ⟨k,s,nx0,hk,rfl,rfl⟩;by_cases hi0:(k:Int)<(N9:Int)
 ·refine awN ?_;simp only [F39,seval,hi0,w1];repeat refine ob ?_
  refine awT ?_;refine awK ?_;simp only [F39,seval];have hsn:=Jc k;simp only [dn,dA] at hsn;refine awN ?_;simp only [F39,seval];repeat refine ob ?_
  refine awN ?_;simp only [F39,seval];repeat refine ob ?_
  repeat refine ob ?_
  refine ⟨_,aH [0,1,2,7,8,9] [27],N9-(k+1),by omega,k+1,?sa7,?na7,by omega,rfl,?st7⟩;case st7=>(simp only [F39,seval,hsn];first|rfl|(simp;done))
 refine awN ?_;simp only [F39,seval,hi0,w1];repeat refine ob ?_
 refine awF ?_;refine awQ ?_;simp only [F39,seval];refine awN ?_;simp only [F39,seval];repeat refine ob ?_
 have hk9:N9=k:=by omega
 subst hk9;refine dL (t:=7) (by rfl) (by rfl) (by decide) (by rfl) ?_;simp only [F39,seval];refine rS 8 45 88 4 (by decide) (by rfl) ?_;simp only [F39,seval];refine aQ [0,1,2,7,8,10] [45] ?_;try simp only [aq,F39,seval]
 repeat' first|apply awS|apply awB
 refine aB (fun n st=>∃k s nx,k<=M9/\n=M9-k/\st=⟨mkT [(0,one (.int .u8 na)),(1,one (.int .u8 mb)),(2,one (.bool same)),(7,.val (.one (.sh 4 N9 (ar dn (aN N9))))),(8,.val (.one (.own 45 s k 4))),(10,one (.int .i64 k))],mkH [(45,⟨s,88,4,k,ar dn (bN same k)⟩)],nx,0⟩) (M9) ⟨0,_,_,by omega,by omega,rfl⟩ ?_;rintro n1 st ⟨k,s,nx1,hk,rfl,rfl⟩;by_cases hi1:(k:Int)<(M9:Int)
 ·refine awN ?_;simp only [F39,seval,hi1,w2];repeat refine ob ?_
  refine awT ?_;refine awK ?_;simp only [F39,seval];refine awN ?_;simp only [F39,seval];repeat refine ob ?_
  by_cases hs:same=false
  ·have hsn:ar dn (bN same k)++[.lit (.int .i64 0),.lit (.int .i64 (100+(k:Int))),.lit (.int .i64 0),.lit (.int .i64 2)]=ar dn (bN same (k+1)):=by rw [←Ja];simp [dB,dn,hs]
   refine awN ?_;simp only [F39,seval,hs];repeat refine ob ?_
   refine awT ?_;refine awN ?_;simp only [F39,seval];repeat refine ob ?_
   refine awN ?_;simp only [F39,seval];repeat refine ob ?_
   refine awN ?_;simp only [F39,seval];repeat refine ob ?_
   repeat refine ob ?_
   refine ⟨_,aH [0,1,2,7,8,10] [45],M9-(k+1),by omega,k+1,?sa16,?na16,by omega,rfl,?st16⟩;case st16=>(rw [hs] at hsn;simp only [F39,seval,hsn];first|rfl|(simp;done))
  have hst:same=true:=by simpa using hs
  have hsn:ar dn (bN same k)++[.lit (.int .i64 0),.lit (.int .i64 (k:Int)),.lit (.int .i64 0),.lit (.int .i64 2)]=ar dn (bN same (k+1)):=by rw [←Ja];simp [dB,dn,hst]
  refine awN ?_;simp only [F39,seval,hs];repeat refine ob ?_
  refine awF ?_;refine awK ?_;simp only [F39,seval];refine awN ?_;simp only [F39,seval];repeat refine ob ?_
  refine awN ?_;simp only [F39,seval];repeat refine ob ?_
  repeat refine ob ?_
  refine ⟨_,aH [0,1,2,7,8,10] [45],M9-(k+1),by omega,k+1,?sa20,?na20,by omega,rfl,?st20⟩;case st20=>(rw [hst] at hsn;simp only [F39,seval,hsn];first|rfl|(simp;done))
 refine awN ?_;simp only [F39,seval,hi1,w2];repeat refine ob ?_
 refine awF ?_;refine awQ ?_;simp only [F39,seval];have hk8:M9=k:=by omega
 subst hk8;refine dL (t:=8) (by rfl) (by rfl) (by decide) (by rfl) ?_;simp only [F39,seval];have hM1:=G6 (aN N9) (bN same M9) (by rw [I8];omega) (by rw [I9];omega);have hM2:=GC (aN N9) (bN same M9) (by rw [I8];omega) (by rw [I9];omega);have hl1:=GY (aN N9) (bN same M9);rw [I8,I9] at hM1 hM2;generalize mgT (aN N9) (bN same M9)=X at *
 have hS1:=Ft X.1 (by omega);unfold mgV at hM1 hM2;refine awN ?_;simp only [F39,seval,ab aC];repeat refine ob ?_
 refine ⟨_,hM1,(by first|rfl|simp [aI,av,az,A1.cells,ab aC]),?_⟩;try simp only [aq,F39,seval]
 repeat refine ob ?_
 refine awN ?_;simp only [F39,seval,ab aC];repeat refine ob ?_
 refine ⟨_,hM2,(by first|rfl|simp [aI,av,az,A1.cells,ab aC]),?_⟩;try simp only [aq,F39,seval]
 repeat refine ob ?_
 refine awR [] [0,0,121,121,121,0,0,131,131,131,0,0] ?_;simp only [F39,seval];repeat refine ob ?_
 refine ⟨_,vE,(by first|rfl|simp [bu,aI,av,az,A1.cells,ab aC]),?_⟩;try simp only [aq,F39,seval,ab aC]
 repeat refine ob ?_
 refine ⟨_,hS1,(by first|rfl|simp [bu,aI,av,az,A1.cells,ab aC]),?_⟩;try simp only [aq,F39,seval]
 repeat refine ob ?_
 refine awX ?_;(first|(simp only [F39,seval];done)|(simp only [F39,seval];first|(simp [hi0,hi1];done)))
theorem Jb (v0 v1 v2:Value) (n m:Nat) (same:Bool) (W:World) (o0:rC (fun n:Nat=>[.lit (.int .u8 n)]) (·<256) W (LT W.heap.size) [v0] n) (o1:rC (fun n:Nat=>[.lit (.int .u8 n)]) (·<256) W (LT W.heap.size) [v1] m) (o2:rC cBo (fun _=>True) W (LT W.heap.size) [v2] same):
  Calls prog 8 #[v0,v1,v2] W fun e w'=>e= .returned (.bool true)/\Below W.heap.size W w':=by
 obtain ⟨h0,k0⟩:=fH o0 rfl;obtain ⟨h1,k1⟩:=fH o1 rfl;obtain ⟨h2,k2⟩:=fH o2 rfl;exact tR (vs:=[v0,v1,v2]) (Jd n m same k0 k1) ⟨h0,h1,h2,trivial⟩
end Go.Proofs.YtcgpghifhehlhaaGreatDoor
