/- The example of the chapter on payments back: it answers true; walked by the abstract machine. -/
import Derived.Test.YtcgpghifhehlhaaGreatDoorAw28sM
import Derived.Test.YtcgpghifhehlhaaGreatDoorGu1M
import Derived.Laws.Cover3
import Derived.Test.YtcgpghifhehlhaaGreatDoorAbUM
import Derived.Test.YtcgpghifhehlhaaGreatDoorAbBM
import Derived.Test.YtcgpghifhehlhaaGreatDoorCb1M
set_option linter.unusedVariables false
set_option maxHeartbeats 4000000
set_option maxRecDepth 100000
set_option linter.unusedSimpArgs false
set_option linter.defProp false
namespace Go.Proofs.YtcgpghifhehlhaaGreatDoor
open Go Go.RowKit Go.Proofs.Tryz
theorem Ej (n:Nat) (h:n<=1000) (he:cS (enc (((n:Nat):Int):Rat))=w9 n):ch prog 12 [.one (.lit (.int .i64 (n:Int)))] (.val (.agg (w9 n))):=by
 have h1:=fG (n:Int) (by omega) (by omega);rw [he] at h1;exact h1
theorem Cu (n:Nat):oc [.bool false,.string (cB n),.string cc] [.bool false,.string (cB n),.string cc]=true:=by simp [oc,eqV]
def F18:=And.intro zS (And.intro yC (And.intro yD (And.intro jU (And.intro tB (And.intro mf (And.intro xi (And.intro tx (And.intro yE (And.intro yF (And.intro zw (And.intro zz (And.intro tf0 (And.intro u9 (And.intro yG (And.intro zA (And.intro zB (And.intro xh (And.intro pn (And.intro nK (And.intro nL (And.intro yB (po))))))))))))))))))))))
theorem F19:type_of%F18:=F18
theorem vE:ch prog 19 [] (one (.bool true)):=by
 have hW10:=Ej 10 (by decide) (by kernel_rfl);have hW20:=Ej 20 (by decide) (by kernel_rfl);have hW30:=Ej 30 (by decide) (by kernel_rfl);have hRv:=Eh;have hSo:=Ei;simp only [w9,cl9,bf,x9,s9,g9,r9,List.cons_append,List.nil_append] at hW10 hW20 hW30 hRv hSo;refine bF func19 rfl (by decide) (N:=68) rfl (by simp) (R:=[.tmp 0]) rfl fun en k0=>?_
 refine awN ?_;simp only [F19,seval,w9,cl9,bf,x9,s9,g9,r9,List.cons_append,List.nil_append];repeat refine ob ?_
 refine awN ?_;simp only [F19,seval,w9,cl9,bf,x9,s9,g9,r9,List.cons_append,List.nil_append];repeat refine ob ?_
 refine ⟨_,hW10,rfl,?_⟩;try simp only [aq,F19,seval,w9,cl9,bf,x9,s9,g9,r9,List.cons_append,List.nil_append]
 repeat refine ob ?_
 refine ⟨_,hW30,rfl,?_⟩;try simp only [aq,F19,seval,w9,cl9,bf,x9,s9,g9,r9,List.cons_append,List.nil_append]
 repeat refine ob ?_
 refine ao 9 11 3 (by rfl) (by rfl) (by rfl) (by decide) (by show (5:Nat)≠0;decide) (by show (5:Nat)≠0;decide) rfl ?_;simp only [F19,seval];refine ao 11 1 0 (by rfl) (by rfl) (by rfl) (by decide) (by show (5:Nat)≠0;decide) (by show (2:Nat)≠0;decide) rfl ?_;simp only [F19,seval];repeat' first|apply awS|apply awB
 refine lI [18] (by kernel_rfl) (.cons 0 true (.two 1 8 (.cons 2 true (.two 3 8 (.two 4 8 (.cons 5 true (.cons 6 true (.cons 7 true (.cons 8 false (.cons 9 false (.cons 10 true .nil)))))) (.cons 4 false (.cons 5 true (.cons 6 true (.cons 7 true (.cons 9 false (.cons 10 true .nil))))))) (.cons 3 false (.cons 4 false (.cons 5 true (.cons 6 true (.cons 7 true (.cons 9 false (.cons 10 true .nil))))))))) (.cons 1 false (.cons 2 true (.cons 3 false (.cons 4 false (.cons 5 true (.cons 6 true (.cons 7 true (.cons 9 false (.cons 10 true .nil))))))))))) (by kernel_rfl) (gs:=[none,none,none,none,none,none,none,none,none,none,none]) (by kernel_rfl) (by simp only [zT,seval];rfl) (by decide) ?_;simp only [F19,seval,w9,cl9,bf,x9,s9,g9,r9,List.cons_append,List.nil_append,(id SD),(id SD)];repeat refine ob ?_
 refine ⟨?_,?_⟩
 ·repeat refine ob ?_
  refine ⟨_,hW30,rfl,?_⟩;try simp only [aq,F19,seval,w9,cl9,bf,x9,s9,g9,r9,List.cons_append,List.nil_append,(id SD)]
  repeat refine ob ?_
  refine ⟨?_,?_⟩
  ·repeat refine ob ?_
   refine ⟨?_,?_⟩
   ·repeat refine ob ?_
    refine ⟨_,d6 (nm:=17) hRv (by simp [bu,aI,av,az,A1.cells]) (by simp [aI,av,az,A1.cells]) (fun e σ w vs hW hx hd=>?_),?_⟩
    ·obtain ⟨v1,vs1,rfl,d1,hd1⟩:=cC hd;obtain ⟨v2,vs2,rfl,d2,hd2⟩:=cC hd1;exact ⟨n8 hx d1,qx hW d2 rfl rfl (by show (6:Nat)≠0;decide),(by cases vs2 with|nil=>exact trivial|cons v vs=>exact hd2.elim)⟩
    rintro res H' nx' ⟨rfl,rfl,rfl⟩;simp only [F19,seval,(id SD)];repeat refine ob ?_
    refine awN ?_;simp only [F19,seval,w9,cl9,bf,x9,s9,g9,r9,List.cons_append,List.nil_append];repeat refine ob ?_
    refine ⟨_,hSo,rfl,?_⟩;try simp only [aq,F19,seval,w9,cl9,bf,x9,s9,g9,r9,List.cons_append,List.nil_append]
    repeat refine ob ?_
    have hq:=qg ⟨false,cB 20,cc⟩ ⟨false,cB 20,cc⟩;have hqv:=Cu 20;refine awD (scT 0 29 (scq [58] (scT 30 9 (scq [78,81,83,85] .nil)))) [0,0,0,59,59,0,0,0,0,71,71,71,71,0,0,83,83,83,83,83,83,0,0,99,99,99,99,99,99,99,99,0,0,119,119,119,119,119,119,119,119,0,0] ?_;simp only [F19,seval,w9,cl9,bf,x9,s9,g9,r9,List.cons_append,List.nil_append,hqv,BEq.rfl,decide_true];repeat refine ob ?_
    refine ⟨_,hW20,rfl,?_⟩;try simp only [aq,F19,seval,w9,cl9,bf,x9,s9,g9,r9,List.cons_append,List.nil_append,hqv,BEq.rfl,decide_true]
    repeat refine ob ?_
    try refine ⟨hq,?_⟩
    repeat refine ob ?_
    refine ⟨_,hW20,rfl,?_⟩;try simp only [aq,F19,seval,w9,cl9,bf,x9,s9,g9,r9,List.cons_append,List.nil_append,hqv,BEq.rfl,decide_true]
    repeat refine ob ?_
    try refine ⟨hq,?_⟩
    repeat refine ob ?_
    refine awX ?_;(first|(simp only [F19,seval,w9,cl9,bf,x9,s9,g9,r9,List.cons_append,List.nil_append];done)|(simp only [F19,seval,w9,cl9,bf,x9,s9,g9,r9,List.cons_append,List.nil_append];first|(simp [];done)))
   repeat refine ob ?_
   refine ⟨_,d6 (nm:=17) hRv (by simp [bu,aI,av,az,A1.cells]) (by simp [aI,av,az,A1.cells]) (fun e σ w vs hW hx hd=>?_),?_⟩
   ·obtain ⟨v1,vs1,rfl,d1,hd1⟩:=cC hd;obtain ⟨v2,vs2,rfl,d2,hd2⟩:=cC hd1;exact ⟨n8 hx d1,qx hW d2 rfl rfl (by show (6:Nat)≠0;decide),(by cases vs2 with|nil=>exact trivial|cons v vs=>exact hd2.elim)⟩
   rintro res H' nx' ⟨rfl,rfl,rfl⟩;simp only [F19,seval,(id SD)];repeat refine ob ?_
   refine awN ?_;simp only [F19,seval,w9,cl9,bf,x9,s9,g9,r9,List.cons_append,List.nil_append];repeat refine ob ?_
   refine ⟨_,hSo,rfl,?_⟩;try simp only [aq,F19,seval,w9,cl9,bf,x9,s9,g9,r9,List.cons_append,List.nil_append]
   repeat refine ob ?_
   have hq:=qg ⟨false,cB 20,cc⟩ ⟨false,cB 20,cc⟩;have hqv:=Cu 20;refine awD (scT 0 29 (scq [58] (scT 30 9 (scq [78,81,83,85] .nil)))) [0,0,0,59,59,0,0,0,0,71,71,71,71,0,0,83,83,83,83,83,83,0,0,99,99,99,99,99,99,99,99,0,0,119,119,119,119,119,119,119,119,0,0] ?_;simp only [F19,seval,w9,cl9,bf,x9,s9,g9,r9,List.cons_append,List.nil_append,hqv,BEq.rfl,decide_true];repeat refine ob ?_
   refine ⟨_,hW20,rfl,?_⟩;try simp only [aq,F19,seval,w9,cl9,bf,x9,s9,g9,r9,List.cons_append,List.nil_append,hqv,BEq.rfl,decide_true]
   repeat refine ob ?_
   try refine ⟨hq,?_⟩
   repeat refine ob ?_
   refine ⟨_,hW20,rfl,?_⟩;try simp only [aq,F19,seval,w9,cl9,bf,x9,s9,g9,r9,List.cons_append,List.nil_append,hqv,BEq.rfl,decide_true]
   repeat refine ob ?_
   try refine ⟨hq,?_⟩
   repeat refine ob ?_
   refine awX ?_;(first|(simp only [F19,seval,w9,cl9,bf,x9,s9,g9,r9,List.cons_append,List.nil_append];done)|(simp only [F19,seval,w9,cl9,bf,x9,s9,g9,r9,List.cons_append,List.nil_append];first|(simp [];done)))
  repeat refine ob ?_
  refine ⟨_,d6 (nm:=17) hRv (by simp [bu,aI,av,az,A1.cells]) (by simp [aI,av,az,A1.cells]) (fun e σ w vs hW hx hd=>?_),?_⟩
  ·obtain ⟨v1,vs1,rfl,d1,hd1⟩:=cC hd;obtain ⟨v2,vs2,rfl,d2,hd2⟩:=cC hd1;exact ⟨n8 hx d1,qx hW d2 rfl rfl (by show (6:Nat)≠0;decide),(by cases vs2 with|nil=>exact trivial|cons v vs=>exact hd2.elim)⟩
  rintro res H' nx' ⟨rfl,rfl,rfl⟩;simp only [F19,seval,(id SD)];repeat refine ob ?_
  refine awN ?_;simp only [F19,seval,w9,cl9,bf,x9,s9,g9,r9,List.cons_append,List.nil_append];repeat refine ob ?_
  refine ⟨_,hSo,rfl,?_⟩;try simp only [aq,F19,seval,w9,cl9,bf,x9,s9,g9,r9,List.cons_append,List.nil_append]
  repeat refine ob ?_
  have hq:=qg ⟨false,cB 20,cc⟩ ⟨false,cB 20,cc⟩;have hqv:=Cu 20;refine awD (scT 0 29 (scq [58] (scT 30 9 (scq [78,81,83,85] .nil)))) [0,0,0,59,59,0,0,0,0,71,71,71,71,0,0,83,83,83,83,83,83,0,0,99,99,99,99,99,99,99,99,0,0,119,119,119,119,119,119,119,119,0,0] ?_;simp only [F19,seval,w9,cl9,bf,x9,s9,g9,r9,List.cons_append,List.nil_append,hqv,BEq.rfl,decide_true];repeat refine ob ?_
  refine ⟨_,hW20,rfl,?_⟩;try simp only [aq,F19,seval,w9,cl9,bf,x9,s9,g9,r9,List.cons_append,List.nil_append,hqv,BEq.rfl,decide_true]
  repeat refine ob ?_
  try refine ⟨hq,?_⟩
  repeat refine ob ?_
  refine ⟨_,hW20,rfl,?_⟩;try simp only [aq,F19,seval,w9,cl9,bf,x9,s9,g9,r9,List.cons_append,List.nil_append,hqv,BEq.rfl,decide_true]
  repeat refine ob ?_
  try refine ⟨hq,?_⟩
  repeat refine ob ?_
  refine awX ?_;(first|(simp only [F19,seval,w9,cl9,bf,x9,s9,g9,r9,List.cons_append,List.nil_append];done)|(simp only [F19,seval,w9,cl9,bf,x9,s9,g9,r9,List.cons_append,List.nil_append];first|(simp [];done)))
 repeat refine ob ?_
 refine ⟨_,hW30,rfl,?_⟩;try simp only [aq,F19,seval,w9,cl9,bf,x9,s9,g9,r9,List.cons_append,List.nil_append,(id SD)]
 repeat refine ob ?_
 refine ⟨_,d6 (nm:=17) hRv (by simp [bu,aI,av,az,A1.cells]) (by simp [aI,av,az,A1.cells]) (fun e σ w vs hW hx hd=>?_),?_⟩
 ·obtain ⟨v1,vs1,rfl,d1,hd1⟩:=cC hd;obtain ⟨v2,vs2,rfl,d2,hd2⟩:=cC hd1;exact ⟨n8 hx d1,qx hW d2 rfl rfl (by show (6:Nat)≠0;decide),(by cases vs2 with|nil=>exact trivial|cons v vs=>exact hd2.elim)⟩
 rintro res H' nx' ⟨rfl,rfl,rfl⟩;simp only [F19,seval,(id SD)];repeat refine ob ?_
 refine awN ?_;simp only [F19,seval,w9,cl9,bf,x9,s9,g9,r9,List.cons_append,List.nil_append];repeat refine ob ?_
 refine ⟨_,hSo,rfl,?_⟩;try simp only [aq,F19,seval,w9,cl9,bf,x9,s9,g9,r9,List.cons_append,List.nil_append]
 repeat refine ob ?_
 have hq:=qg ⟨false,cB 20,cc⟩ ⟨false,cB 20,cc⟩;have hqv:=Cu 20;refine awD (scT 0 29 (scq [58] (scT 30 9 (scq [78,81,83,85] .nil)))) [0,0,0,59,59,0,0,0,0,71,71,71,71,0,0,83,83,83,83,83,83,0,0,99,99,99,99,99,99,99,99,0,0,119,119,119,119,119,119,119,119,0,0] ?_;simp only [F19,seval,w9,cl9,bf,x9,s9,g9,r9,List.cons_append,List.nil_append,hqv,BEq.rfl,decide_true];repeat refine ob ?_
 refine ⟨_,hW20,rfl,?_⟩;try simp only [aq,F19,seval,w9,cl9,bf,x9,s9,g9,r9,List.cons_append,List.nil_append,hqv,BEq.rfl,decide_true]
 repeat refine ob ?_
 try refine ⟨hq,?_⟩
 repeat refine ob ?_
 refine ⟨_,hW20,rfl,?_⟩;try simp only [aq,F19,seval,w9,cl9,bf,x9,s9,g9,r9,List.cons_append,List.nil_append,hqv,BEq.rfl,decide_true]
 repeat refine ob ?_
 try refine ⟨hq,?_⟩
 repeat refine ob ?_
 refine awX ?_;(first|(simp only [F19,seval,w9,cl9,bf,x9,s9,g9,r9,List.cons_append,List.nil_append];done)|(simp only [F19,seval,w9,cl9,bf,x9,s9,g9,r9,List.cons_append,List.nil_append];first|(simp [];done)))
def pSl (ps:List Nat):List Int:=ps.map fun n=>((n%6:Nat):Int)
theorem DL (ps:List Nat):(pSl ps).length=ps.length:=by simp [pSl]
theorem DM (ps:List Nat) (k:Nat) (h:k<ps.length):ar cI (pSl (ps.take k))++cI ((ps[k]%6:Nat):Int)=ar cI (pSl (ps.take (k+1))):=by
 unfold pSl;rw [List.take_succ_eq_append_getElem h,List.map_append,aV];simp [aY,ej]
def F20:=And.intro zS (And.intro nM (And.intro tu (And.intro tv (And.intro nN (And.intro vd (And.intro pj (And.intro qO (zZ))))))))
theorem F21:type_of%F20:=F20
theorem EV (list:List N4) (ps:List Nat) (raw:List Dem) (hls:nO xK list) (hps:nO (·<256) ps) (hrw:nO Ce raw):ch prog 6 [.one (.sh 4 list.length (ar cN4 list)),.one (.sh 1 ps.length (ar cB8 ps)),.one (.sh 4 raw.length (ar dn raw))] (one (.bool true)):=by
 have hn1:list.length<=9223372036854775807:=Nat.le_trans hls.1 (by decide);have hn2:ps.length<=9223372036854775807:=Nat.le_trans hps.1 (by decide);have hn3:raw.length<=9223372036854775807:=Nat.le_trans hrw.1 (by decide);refine bF func6 rfl (by decide) (N:=88) rfl (by simp) (R:=[.tmp 6]) rfl fun en k0=>?_
 refine awN ?_;simp only [F21,seval];repeat refine ob ?_
 by_cases h6:(6:Int)<(ps.length:Int)
 ·refine awR [] [0,0,0,0,42,42,42,0] ?_;simp only [F21,seval,h6];repeat refine ob ?_
  refine awT ?_;refine awN ?_;simp only [F21,seval,h6];repeat refine ob ?_
  refine ⟨_,vE,(by first|rfl|simp [bu,aI,av,az,A1.cells,ab a6,ab aC,ab rV,ab aL,ab a7]),?_⟩;try simp only [aq,F21,seval,h6]
  repeat refine ob ?_
  refine awX ?_;(first|(simp only [F21,seval,h6];done)|(simp only [F21,seval];first|(simp [h6];done)))
 by_cases h10:(10:Int)<(raw.length:Int)
 ·refine awR [] [0,0,0,0,42,42,42,0] ?_;simp only [F21,seval,h6,h10];repeat refine ob ?_
  refine awT ?_;refine awN ?_;simp only [F21,seval,h6,h10];repeat refine ob ?_
  refine ⟨_,vE,(by first|rfl|simp [bu,aI,av,az,A1.cells,ab a6,ab aC,ab rV,ab aL,ab a7]),?_⟩;try simp only [aq,F21,seval,h6,h10]
  repeat refine ob ?_
  refine awX ?_;(first|(simp only [F21,seval,h6,h10];done)|(simp only [F21,seval];first|(simp [h6,h10];done)))
 refine awR [] [0,0,0,0,42,42,42,0] ?_;simp only [F21,seval,h6,h10];repeat refine ob ?_
 refine awF ?_;refine awK ?_;simp only [F21,seval];refine awN ?_;simp only [F21,seval,h6,h10];repeat refine ob ?_
 refine awN ?_;simp only [F21,seval,h6,h10];repeat refine ob ?_
 refine rS 7 40 3 1 (by decide) (by rfl) ?_;simp only [F21,seval];refine aQ [0,1,2,7,8] [40] ?_;try simp only [aq,F21,seval,h6,h10]
 repeat' first|apply awS|apply awB
 refine aB (fun n st=>∃k s nx,k<=ps.length/\n=ps.length-k/\st=⟨mkT [(0,.val (.one (.sh 4 list.length (ar cN4 list)))),(1,.val (.one (.sh 1 ps.length (ar cB8 ps)))),(2,.val (.one (.sh 4 raw.length (ar dn raw)))),(7,.val (.one (.own 40 s k 1))),(8,one (.int .i64 k))],mkH [(40,⟨s,3,1,k,ar cI (pSl (ps.take k))⟩)],nx,0⟩) (ps.length) ⟨0,_,_,by omega,by omega,rfl⟩ ?_;rintro n0 st ⟨k,s,nx0,hk,rfl,rfl⟩;by_cases hi0:(k:Int)<(ps.length:Int)
 ·refine awN ?_;simp only [F21,seval,h6,h10,hi0];repeat refine ob ?_
  refine awT ?_;refine awK ?_;simp only [F21,seval];have hkl:k<ps.length:=by omega
  have hat:=aO Cd ps k hkl;have hsn:=DM ps k hkl;rw [Nat.mul_one] at hat;have w1:((ps[k]:Nat):Int).tmod 6=((ps[k]%6:Nat):Int):=Br ps[k] 6;generalize ps[k]=q at *
  simp only [cI] at hsn;refine awN ?_;simp only [F21,seval,h6,h10,hi0,hat,cB8,w1];repeat refine ob ?_
  refine awN ?_;simp only [F21,seval,h6,h10,hi0];repeat refine ob ?_
  repeat refine ob ?_
  refine ⟨_,aH [0,1,2,7,8] [40],ps.length-(k+1),by omega,k+1,?sa14,?na14,by omega,rfl,?st14⟩;case st14=>(simp only [F21,seval,hsn];first|rfl|(simp;done))
 refine awN ?_;simp only [F21,seval,h6,h10,hi0];repeat refine ob ?_
 refine awF ?_;refine awQ ?_;simp only [F21,seval];obtain rfl:k=ps.length:=by omega
 rw [List.take_length];refine dL (t:=7) (by rfl) (by rfl) (by decide) (by rfl) ?_;simp only [F21,seval];have hpl:(pSl ps).length=ps.length:=DL ps;have hD:=Cy list (by omega);have hd10:=Dl list;have hR1:=A0 (pSl ps) (dmL list) (by omega) (by omega);have hR2:=AG (pSl ps) (dmL list) (by omega) (by omega);have hR3:=A0 (pSl ps) raw (by omega) (by omega);have hR4:=AG (pSl ps) raw (by omega) (by omega);have hl1:=Ca (pSl ps) (dmL list);have hl2:=Ca (pSl ps) raw;rw [hpl] at hR1 hR2 hR3 hR4;generalize rtT (pSl ps) (dmL list)=X at *
 generalize rtT (pSl ps) raw=Y at *
 have hS1:=gi X.1 (by omega);have hS2:=gi Y.1 (by omega);unfold rtV at hR1 hR2 hR3 hR4;refine awN ?_;simp only [F21,seval,h6,h10,hi0,ab a6,ab aC,ab rV,ab aL,ab a7];repeat refine ob ?_
 refine ⟨_,hD,(by first|rfl|simp [bu,aI,av,az,A1.cells,ab a6,ab aC,ab rV,ab aL,ab a7]),?_⟩;try simp only [aq,F21,seval,h6,h10,hi0,ab a6,ab aC,ab rV,ab aL,ab a7]
 repeat refine ob ?_
 refine ⟨_,hR1,(by first|rfl|simp [bu,aI,av,az,A1.cells,ab a6,ab aC,ab rV,ab aL,ab a7]),?_⟩;try simp only [aq,F21,seval,h6,h10,hi0,ab a6,ab aC,ab rV,ab aL,ab a7]
 repeat refine ob ?_
 refine awN ?_;simp only [F21,seval,h6,h10,hi0,ab a6,ab aC,ab rV,ab aL,ab a7];repeat refine ob ?_
 refine ⟨_,hD,(by first|rfl|simp [bu,aI,av,az,A1.cells,ab a6,ab aC,ab rV,ab aL,ab a7]),?_⟩;try simp only [aq,F21,seval,h6,h10,hi0,ab a6,ab aC,ab rV,ab aL,ab a7]
 repeat refine ob ?_
 refine ⟨_,hR2,(by first|rfl|simp [bu,aI,av,az,A1.cells,ab a6,ab aC,ab rV,ab aL,ab a7]),?_⟩;try simp only [aq,F21,seval,h6,h10,hi0,ab a6,ab aC,ab rV,ab aL,ab a7]
 repeat refine ob ?_
 refine awN ?_;simp only [F21,seval,h6,h10,hi0,ab a6,ab aC,ab rV,ab aL,ab a7];repeat refine ob ?_
 refine ⟨_,hR3,(by first|rfl|simp [bu,aI,av,az,A1.cells,ab a6,ab aC,ab rV,ab aL,ab a7]),?_⟩;try simp only [aq,F21,seval,h6,h10,hi0,ab a6,ab aC,ab rV,ab aL,ab a7]
 repeat refine ob ?_
 refine awN ?_;simp only [F21,seval,h6,h10,hi0,ab a6,ab aC,ab rV,ab aL,ab a7];repeat refine ob ?_
 refine ⟨_,hR4,(by first|rfl|simp [bu,aI,av,az,A1.cells,ab a6,ab aC,ab rV,ab aL,ab a7]),?_⟩;try simp only [aq,F21,seval,h6,h10,hi0,ab a6,ab aC,ab rV,ab aL,ab a7]
 repeat refine ob ?_
 refine awR [] [0,0,139,139,139,0,0,149,149,149,0,0,159,159,159,0,0,169,169,169,0,0] ?_;simp only [F21,seval,h6,h10,hi0,ab a6,ab aC,ab rV,ab aL,ab a7,decide_true,BEq.rfl];repeat refine ob ?_
 refine ⟨_,vE,(by first|rfl|simp [bu,aI,av,az,A1.cells,ab a6,ab aC,ab rV,ab aL,ab a7]),?_⟩;try simp only [aq,F21,seval,h6,h10,hi0,ab a6,ab aC,ab rV,ab aL,ab a7,decide_true,BEq.rfl]
 repeat refine ob ?_
 refine ⟨_,hS1,(by first|rfl|simp [bu,aI,av,az,A1.cells,ab a6,ab aC,ab rV,ab aL,ab a7]),?_⟩;try simp only [aq,F21,seval,h6,h10,hi0,ab a6,ab aC,ab rV,ab aL,ab a7,decide_true,BEq.rfl]
 repeat refine ob ?_
 refine ⟨_,hS2,(by first|rfl|simp [bu,aI,av,az,A1.cells,ab a6,ab aC,ab rV,ab aL,ab a7]),?_⟩;try simp only [aq,F21,seval,h6,h10,hi0,ab a6,ab aC,ab rV,ab aL,ab a7,decide_true,BEq.rfl]
 repeat refine ob ?_
 refine awX ?_;(first|(simp only [F21,seval,h6,h10,hi0];done)|(simp only [F21,seval];first|(simp [h6,h10,hi0];done)))
theorem Dj (v0 v1 v2:Value) (list:List N4) (ps:List Nat) (raw:List Dem) (W:World) (o0:rC (cSl 4 cN4) (nO xK) W (LT W.heap.size) [v0] list) (o1:rC (cSl 1 cB8) (nO (·<256)) W (LT W.heap.size) [v1] ps) (o2:rC (cSl 4 dn) (nO Ce) W (LT W.heap.size) [v2] raw):
  Calls prog 6 #[v0,v1,v2] W fun e w'=>e= .returned (.bool true)/\Below W.heap.size W w':=by
 obtain ⟨h0,k0⟩:=fH o0 rfl;obtain ⟨h1,k1⟩:=fH o1 rfl;obtain ⟨h2,k2⟩:=fH o2 rfl;exact tR (vs:=[v0,v1,v2]) (EV list ps raw k0 k1 k2) ⟨h0,h1,h2,trivial⟩
end Go.Proofs.YtcgpghifhehlhaaGreatDoor
