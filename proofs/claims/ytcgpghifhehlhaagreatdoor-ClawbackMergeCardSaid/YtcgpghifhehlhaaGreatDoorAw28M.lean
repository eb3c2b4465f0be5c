/- The example of the chapter on payments back: it answers true; walked by the abstract machine. -/
import Derived.Test.YtcgpghifhehlhaaGreatDoorAw28sM
import Derived.Test.YtcgpghifhehlhaaGreatDoorGu1M
import Derived.Test.YtcgpghifhehlhaaGreatDoorAbZM
import Derived.Test.YtcgpghifhehlhaaGreatDoorAbUM
import Derived.Test.YtcgpghifhehlhaaGreatDoorAbBM
import Derived.Test.YtcgpghifhehlhaaGreatDoorCb5M
set_option linter.unusedVariables false
set_option maxHeartbeats 4000000
set_option maxRecDepth 100000
set_option linter.unusedSimpArgs false
set_option linter.defProp false
namespace Go.Proofs.YtcgpghifhehlhaaGreatDoor
open Go Go.RowKit Go.Proofs.Tryz
theorem Ej (n:Nat) (h:n<=1000) (he:cS (enc (((n:Nat):Int):Rat))=w9 n):ch prog 12 [.one (.lit (.int .i64 (n:Int)))] (.val (.agg (w9 n))):=by
 have h1:=fG (n:Int) (by omega) (by omega);rw [he] at h1;exact h1
theorem Cu (n:Nat):oc [.bool false,.string (cB n),.string cc] [.bool false,.string (cB n),.string cc]=true:=by simp [oc,eqV]
def F38:=And.intro zS (And.intro yD (And.intro jU (And.intro tB (And.intro mf (And.intro xi (And.intro yE (And.intro yF (And.intro zw (And.intro I0 (And.intro u9 (And.intro yG (And.intro tf0 (And.intro zA (And.intro zB (And.intro pn (And.intro nK (And.intro nL (And.intro po (And.intro nM (And.intro nN (And.intro vd (qO))))))))))))))))))))))
theorem F39:type_of%F38:=F38
theorem vE:ch prog 19 [] (one (.bool true)):=by
 have hW10:=Ej 10 (by decide) (by kernel_rfl);have hW20:=Ej 20 (by decide) (by kernel_rfl);have hW30:=Ej 30 (by decide) (by kernel_rfl);have hRv:=Eh;have hSo:=Ei;simp only [w9,cl9,bf,x9,s9,g9,r9,List.cons_append,List.nil_append] at hW10 hW20 hW30 hRv hSo;refine bF func19 rfl (by decide) (N:=68) rfl (by simp) (R:=[.tmp 0]) rfl fun en k0=>?_
 refine awN ?_;simp only [F39,seval,w9,cl9,bf,x9,s9,g9,r9,List.cons_append,List.nil_append];repeat refine ob ?_
 refine awN ?_;simp only [F39,seval,w9,cl9,bf,x9,s9,g9,r9,List.cons_append,List.nil_append];repeat refine ob ?_
 refine ⟨_,hW10,rfl,?_⟩;try simp only [aq,F39,seval,w9,cl9,bf,x9,s9,g9,r9,List.cons_append,List.nil_append]
 repeat refine ob ?_
 refine ⟨_,hW30,rfl,?_⟩;try simp only [aq,F39,seval,w9,cl9,bf,x9,s9,g9,r9,List.cons_append,List.nil_append]
 repeat refine ob ?_
 refine ao 9 11 3 (by rfl) (by rfl) (by rfl) (by decide) (by show (5:Nat)≠0;decide) (by show (5:Nat)≠0;decide) rfl ?_;simp only [F39,seval];refine ao 11 1 0 (by rfl) (by rfl) (by rfl) (by decide) (by show (5:Nat)≠0;decide) (by show (2:Nat)≠0;decide) rfl ?_;simp only [F39,seval];repeat' first|apply awS|apply awB
 refine lI [18] (by kernel_rfl) (.cons 0 true (.two 1 8 (.cons 2 true (.two 3 8 (.two 4 8 (.cons 5 true (.cons 6 true (.cons 7 true (.cons 8 false (.cons 9 false (.cons 10 true .nil)))))) (.cons 4 false (.cons 5 true (.cons 6 true (.cons 7 true (.cons 9 false (.cons 10 true .nil))))))) (.cons 3 false (.cons 4 false (.cons 5 true (.cons 6 true (.cons 7 true (.cons 9 false (.cons 10 true .nil))))))))) (.cons 1 false (.cons 2 true (.cons 3 false (.cons 4 false (.cons 5 true (.cons 6 true (.cons 7 true (.cons 9 false (.cons 10 true .nil))))))))))) (by kernel_rfl) (gs:=[none,none,none,none,none,none,none,none,none,none,none]) (by kernel_rfl) (by simp only [zT,seval];rfl) (by decide) ?_;simp only [F39,seval,w9,cl9,bf,x9,s9,g9,r9,List.cons_append,List.nil_append,(id SD),(id SD)];repeat refine ob ?_
 refine ⟨?_,?_⟩
 ·repeat refine ob ?_
  refine ⟨_,hW30,rfl,?_⟩;try simp only [aq,F39,seval,w9,cl9,bf,x9,s9,g9,r9,List.cons_append,List.nil_append,(id SD)]
  repeat refine ob ?_
  refine ⟨?_,?_⟩
  ·repeat refine ob ?_
   refine ⟨?_,?_⟩
   ·repeat refine ob ?_
    refine ⟨_,d6 (nm:=17) hRv (by simp [bu,aI,av,az,A1.cells]) (by simp [aI,av,az,A1.cells]) (fun e σ w vs hW hx hd=>?_),?_⟩
    ·obtain ⟨v1,vs1,rfl,d1,hd1⟩:=cC hd;obtain ⟨v2,vs2,rfl,d2,hd2⟩:=cC hd1;exact ⟨n8 hx d1,qx hW d2 rfl rfl (by show (6:Nat)≠0;decide),(by cases vs2 with|nil=>exact trivial|cons v vs=>exact hd2.elim)⟩
    rintro res H' nx' ⟨rfl,rfl,rfl⟩;simp only [F39,seval,(id SD)];repeat refine ob ?_
    refine awN ?_;simp only [F39,seval,w9,cl9,bf,x9,s9,g9,r9,List.cons_append,List.nil_append];repeat refine ob ?_
    refine ⟨_,hSo,rfl,?_⟩;try simp only [aq,F39,seval,w9,cl9,bf,x9,s9,g9,r9,List.cons_append,List.nil_append]
    repeat refine ob ?_
    have hq:=qg ⟨false,cB 20,cc⟩ ⟨false,cB 20,cc⟩;have hqv:=Cu 20;refine awD (scT 0 29 (scq [58] (scT 30 9 (scq [78,81,83,85] .nil)))) [0,0,0,59,59,0,0,0,0,71,71,71,71,0,0,83,83,83,83,83,83,0,0,99,99,99,99,99,99,99,99,0,0,119,119,119,119,119,119,119,119,0,0] ?_;simp only [F39,seval,w9,cl9,bf,x9,s9,g9,r9,List.cons_append,List.nil_append,hqv,BEq.rfl,decide_true];repeat refine ob ?_
    refine ⟨_,hW20,rfl,?_⟩;try simp only [aq,F39,seval,w9,cl9,bf,x9,s9,g9,r9,List.cons_append,List.nil_append,hqv,BEq.rfl,decide_true]
    repeat refine ob ?_
    try refine ⟨hq,?_⟩
    repeat refine ob ?_
    refine ⟨_,hW20,rfl,?_⟩;try simp only [aq,F39,seval,w9,cl9,bf,x9,s9,g9,r9,List.cons_append,List.nil_append,hqv,BEq.rfl,decide_true]
    repeat refine ob ?_
    try refine ⟨hq,?_⟩
    repeat refine ob ?_
    refine awX ?_;(first|(simp only [F39,seval,w9,cl9,bf,x9,s9,g9,r9,List.cons_append,List.nil_append];done)|(simp only [F39,seval,w9,cl9,bf,x9,s9,g9,r9,List.cons_append,List.nil_append];first|(simp [];done)))
   repeat refine ob ?_
   refine ⟨_,d6 (nm:=17) hRv (by simp [bu,aI,av,az,A1.cells]) (by simp [aI,av,az,A1.cells]) (fun e σ w vs hW hx hd=>?_),?_⟩
   ·obtain ⟨v1,vs1,rfl,d1,hd1⟩:=cC hd;obtain ⟨v2,vs2,rfl,d2,hd2⟩:=cC hd1;exact ⟨n8 hx d1,qx hW d2 rfl rfl (by show (6:Nat)≠0;decide),(by cases vs2 with|nil=>exact trivial|cons v vs=>exact hd2.elim)⟩
   rintro res H' nx' ⟨rfl,rfl,rfl⟩;simp only [F39,seval,(id SD)];repeat refine ob ?_
   refine awN ?_;simp only [F39,seval,w9,cl9,bf,x9,s9,g9,r9,List.cons_append,List.nil_append];repeat refine ob ?_
   refine ⟨_,hSo,rfl,?_⟩;try simp only [aq,F39,seval,w9,cl9,bf,x9,s9,g9,r9,List.cons_append,List.nil_append]
   repeat refine ob ?_
   have hq:=qg ⟨false,cB 20,cc⟩ ⟨false,cB 20,cc⟩;have hqv:=Cu 20;refine awD (scT 0 29 (scq [58] (scT 30 9 (scq [78,81,83,85] .nil)))) [0,0,0,59,59,0,0,0,0,71,71,71,71,0,0,83,83,83,83,83,83,0,0,99,99,99,99,99,99,99,99,0,0,119,119,119,119,119,119,119,119,0,0] ?_;simp only [F39,seval,w9,cl9,bf,x9,s9,g9,r9,List.cons_append,List.nil_append,hqv,BEq.rfl,decide_true];repeat refine ob ?_
   refine ⟨_,hW20,rfl,?_⟩;try simp only [aq,F39,seval,w9,cl9,bf,x9,s9,g9,r9,List.cons_append,List.nil_append,hqv,BEq.rfl,decide_true]
   repeat refine ob ?_
   try refine ⟨hq,?_⟩
   repeat refine ob ?_
   refine ⟨_,hW20,rfl,?_⟩;try simp only [aq,F39,seval,w9,cl9,bf,x9,s9,g9,r9,List.cons_append,List.nil_append,hqv,BEq.rfl,decide_true]
   repeat refine ob ?_
   try refine ⟨hq,?_⟩
   repeat refine ob ?_
   refine awX ?_;(first|(simp only [F39,seval,w9,cl9,bf,x9,s9,g9,r9,List.cons_append,List.nil_append];done)|(simp only [F39,seval,w9,cl9,bf,x9,s9,g9,r9,List.cons_append,List.nil_append];first|(simp [];done)))
  repeat refine ob ?_
  refine ⟨_,d6 (nm:=17) hRv (by simp [bu,aI,av,az,A1.cells]) (by simp [aI,av,az,A1.cells]) (fun e σ w vs hW hx hd=>?_),?_⟩
  ·obtain ⟨v1,vs1,rfl,d1,hd1⟩:=cC hd;obtain ⟨v2,vs2,rfl,d2,hd2⟩:=cC hd1;exact ⟨n8 hx d1,qx hW d2 rfl rfl (by show (6:Nat)≠0;decide),(by cases vs2 with|nil=>exact trivial|cons v vs=>exact hd2.elim)⟩
  rintro res H' nx' ⟨rfl,rfl,rfl⟩;simp only [F39,seval,(id SD)];repeat refine ob ?_
  refine awN ?_;simp only [F39,seval,w9,cl9,bf,x9,s9,g9,r9,List.cons_append,List.nil_append];repeat refine ob ?_
  refine ⟨_,hSo,rfl,?_⟩;try simp only [aq,F39,seval,w9,cl9,bf,x9,s9,g9,r9,List.cons_append,List.nil_append]
  repeat refine ob ?_
  have hq:=qg ⟨false,cB 20,cc⟩ ⟨false,cB 20,cc⟩;have hqv:=Cu 20;refine awD (scT 0 29 (scq [58] (scT 30 9 (scq [78,81,83,85] .nil)))) [0,0,0,59,59,0,0,0,0,71,71,71,71,0,0,83,83,83,83,83,83,0,0,99,99,99,99,99,99,99,99,0,0,119,119,119,119,119,119,119,119,0,0] ?_;simp only [F39,seval,w9,cl9,bf,x9,s9,g9,r9,List.cons_append,List.nil_append,hqv,BEq.rfl,decide_true];repeat refine ob ?_
  refine ⟨_,hW20,rfl,?_⟩;try simp only [aq,F39,seval,w9,cl9,bf,x9,s9,g9,r9,List.cons_append,List.nil_append,hqv,BEq.rfl,decide_true]
  repeat refine ob ?_
  try refine ⟨hq,?_⟩
  repeat refine ob ?_
  refine ⟨_,hW20,rfl,?_⟩;try simp only [aq,F39,seval,w9,cl9,bf,x9,s9,g9,r9,List.cons_append,List.nil_append,hqv,BEq.rfl,decide_true]
  repeat refine ob ?_
  try refine ⟨hq,?_⟩
  repeat refine ob ?_
  refine awX ?_;(first|(simp only [F39,seval,w9,cl9,bf,x9,s9,g9,r9,List.cons_append,List.nil_append];done)|(simp only [F39,seval,w9,cl9,bf,x9,s9,g9,r9,List.cons_append,List.nil_append];first|(simp [];done)))
 repeat refine ob ?_
 refine ⟨_,hW30,rfl,?_⟩;try simp only [aq,F39,seval,w9,cl9,bf,x9,s9,g9,r9,List.cons_append,List.nil_append,(id SD)]
 repeat refine ob ?_
 refine ⟨_,d6 (nm:=17) hRv (by simp [bu,aI,av,az,A1.cells]) (by simp [aI,av,az,A1.cells]) (fun e σ w vs hW hx hd=>?_),?_⟩
 ·obtain ⟨v1,vs1,rfl,d1,hd1⟩:=cC hd;obtain ⟨v2,vs2,rfl,d2,hd2⟩:=cC hd1;exact ⟨n8 hx d1,qx hW d2 rfl rfl (by show (6:Nat)≠0;decide),(by cases vs2 with|nil=>exact trivial|cons v vs=>exact hd2.elim)⟩
 rintro res H' nx' ⟨rfl,rfl,rfl⟩;simp only [F39,seval,(id SD)];repeat refine ob ?_
 refine awN ?_;simp only [F39,seval,w9,cl9,bf,x9,s9,g9,r9,List.cons_append,List.nil_append];repeat refine ob ?_
 refine ⟨_,hSo,rfl,?_⟩;try simp only [aq,F39,seval,w9,cl9,bf,x9,s9,g9,r9,List.cons_append,List.nil_append]
 repeat refine ob ?_
 have hq:=qg ⟨false,cB 20,cc⟩ ⟨false,cB 20,cc⟩;have hqv:=Cu 20;refine awD (scT 0 29 (scq [58] (scT 30 9 (scq [78,81,83,85] .nil)))) [0,0,0,59,59,0,0,0,0,71,71,71,71,0,0,83,83,83,83,83,83,0,0,99,99,99,99,99,99,99,99,0,0,119,119,119,119,119,119,119,119,0,0] ?_;simp only [F39,seval,w9,cl9,bf,x9,s9,g9,r9,List.cons_append,List.nil_append,hqv,BEq.rfl,decide_true];repeat refine ob ?_
 refine ⟨_,hW20,rfl,?_⟩;try simp only [aq,F39,seval,w9,cl9,bf,x9,s9,g9,r9,List.cons_append,List.nil_append,hqv,BEq.rfl,decide_true]
 repeat refine ob ?_
 try refine ⟨hq,?_⟩
 repeat refine ob ?_
 refine ⟨_,hW20,rfl,?_⟩;try simp only [aq,F39,seval,w9,cl9,bf,x9,s9,g9,r9,List.cons_append,List.nil_append,hqv,BEq.rfl,decide_true]
 repeat refine ob ?_
 try refine ⟨hq,?_⟩
 repeat refine ob ?_
 refine awX ?_;(first|(simp only [F39,seval,w9,cl9,bf,x9,s9,g9,r9,List.cons_append,List.nil_append];done)|(simp only [F39,seval,w9,cl9,bf,x9,s9,g9,r9,List.cons_append,List.nil_append];first|(simp [];done)))
def F40:=And.intro zS (tu)
theorem F41:type_of%F40:=F40
theorem IZ (a b:List N4) (raw other:List Dem) (hla:nO xK a) (hlb:nO xK b) (hrw:nO Ce raw) (hot:nO Ce other):ch prog 7 [.one (.sh 4 a.length (ar cN4 a)),.one (.sh 4 b.length (ar cN4 b)),.one (.sh 4 raw.length (ar dn raw)),.one (.sh 4 other.length (ar dn other))] (one (.bool true)):=by
 have hn1:a.length<=9223372036854775807:=Nat.le_trans hla.1 (by decide);have hn2:b.length<=9223372036854775807:=Nat.le_trans hlb.1 (by decide);have hn3:raw.length<=9223372036854775807:=Nat.le_trans hrw.1 (by decide);have hn4:other.length<=9223372036854775807:=Nat.le_trans hot.1 (by decide);refine bF func7 rfl (by decide) (N:=75) rfl (by simp) (R:=[.tmp 8]) rfl fun en k0=>?_
 refine awN ?_;simp only [F41,seval];repeat refine ob ?_
 by_cases h12:(12:Int)<(raw.length:Int)
 ·refine awR [] [0,0,0,0,42,42,42,0] ?_;simp only [F41,seval,h12];repeat refine ob ?_
  refine awT ?_;refine awN ?_;simp only [F41,seval,h12];repeat refine ob ?_
  refine ⟨_,vE,(by first|rfl|simp [bu,aI,av,az,A1.cells,ab dm,ab aC]),?_⟩;try simp only [aq,F41,seval,h12]
  repeat refine ob ?_
  refine awX ?_;(first|(simp only [F41,seval,h12];done)|(simp only [F41,seval];first|(simp [h12];done)))
 by_cases h13:(12:Int)<(other.length:Int)
 ·refine awR [] [0,0,0,0,42,42,42,0] ?_;simp only [F41,seval,h12,h13];repeat refine ob ?_
  refine awT ?_;refine awN ?_;simp only [F41,seval,h12,h13];repeat refine ob ?_
  refine ⟨_,vE,(by first|rfl|simp [bu,aI,av,az,A1.cells,ab dm,ab aC]),?_⟩;try simp only [aq,F41,seval,h12,h13]
  repeat refine ob ?_
  refine awX ?_;(first|(simp only [F41,seval,h12,h13];done)|(simp only [F41,seval];first|(simp [h12,h13];done)))
 refine awR [] [0,0,0,0,42,42,42,0] ?_;simp only [F41,seval,h12,h13];repeat refine ob ?_
 refine awF ?_;refine awK ?_;simp only [F41,seval];have hD1:=Cy a (by omega);have hD2:=Cy b (by omega);have hd1:=Dl a;have hd2:=Dl b;have hM1:=G6 (dmL a) (dmL b) (by omega) (by omega);have hM2:=GC (dmL a) (dmL b) (by omega) (by omega);have hM3:=G6 raw other (by omega) (by omega);have hM4:=GC raw other (by omega) (by omega);have hl1:=GY (dmL a) (dmL b);have hl2:=GY raw other;generalize mgT (dmL a) (dmL b)=X at *
 generalize mgT raw other=Y at *
 have hS1:=Ft X.1 (by omega);have hS2:=Ft Y.1 (by omega);unfold mgV at hM1 hM2 hM3 hM4;refine awN ?_;simp only [F41,seval,h12,h13,ab dm,ab aC];repeat refine ob ?_
 refine ⟨_,hD1,(by first|rfl|simp [bu,aI,av,az,A1.cells,ab dm,ab aC]),?_⟩;try simp only [aq,F41,seval,h12,h13,ab dm,ab aC]
 repeat refine ob ?_
 refine ⟨_,hD2,(by first|rfl|simp [bu,aI,av,az,A1.cells,ab dm,ab aC]),?_⟩;try simp only [aq,F41,seval,h12,h13,ab dm,ab aC]
 repeat refine ob ?_
 refine ⟨_,hM1,(by first|rfl|simp [bu,aI,av,az,A1.cells,ab dm,ab aC]),?_⟩;try simp only [aq,F41,seval,h12,h13,ab dm,ab aC]
 repeat refine ob ?_
 refine awN ?_;simp only [F41,seval,h12,h13,ab dm,ab aC];repeat refine ob ?_
 refine ⟨_,hD1,(by first|rfl|simp [bu,aI,av,az,A1.cells,ab dm,ab aC]),?_⟩;try simp only [aq,F41,seval,h12,h13,ab dm,ab aC]
 repeat refine ob ?_
 refine ⟨_,hD2,(by first|rfl|simp [bu,aI,av,az,A1.cells,ab dm,ab aC]),?_⟩;try simp only [aq,F41,seval,h12,h13,ab dm,ab aC]
 repeat refine ob ?_
 refine ⟨_,hM2,(by first|rfl|simp [bu,aI,av,az,A1.cells,ab dm,ab aC]),?_⟩;try simp only [aq,F41,seval,h12,h13,ab dm,ab aC]
 repeat refine ob ?_
 refine awN ?_;simp only [F41,seval,h12,h13,ab dm,ab aC];repeat refine ob ?_
 refine ⟨_,hM3,(by first|rfl|simp [bu,aI,av,az,A1.cells,ab dm,ab aC]),?_⟩;try simp only [aq,F41,seval,h12,h13,ab dm,ab aC]
 repeat refine ob ?_
 refine awN ?_;simp only [F41,seval,h12,h13,ab dm,ab aC];repeat refine ob ?_
 refine ⟨_,hM4,(by first|rfl|simp [bu,aI,av,az,A1.cells,ab dm,ab aC]),?_⟩;try simp only [aq,F41,seval,h12,h13,ab dm,ab aC]
 repeat refine ob ?_
 refine awR [] [0,0,113,113,113,0,0,123,123,123,0,0,133,133,133,0,0,143,143,143,0,0] ?_;simp only [F41,seval,h12,h13,ab dm,ab aC,decide_true,BEq.rfl];repeat refine ob ?_
 refine ⟨_,vE,(by first|rfl|simp [bu,aI,av,az,A1.cells,ab dm,ab aC]),?_⟩;try simp only [aq,F41,seval,h12,h13,ab dm,ab aC,decide_true,BEq.rfl]
 repeat refine ob ?_
 refine ⟨_,hS1,(by first|rfl|simp [bu,aI,av,az,A1.cells,ab dm,ab aC]),?_⟩;try simp only [aq,F41,seval,h12,h13,ab dm,ab aC,decide_true,BEq.rfl]
 repeat refine ob ?_
 refine ⟨_,hS2,(by first|rfl|simp [bu,aI,av,az,A1.cells,ab dm,ab aC]),?_⟩;try simp only [aq,F41,seval,h12,h13,ab dm,ab aC,decide_true,BEq.rfl]
 repeat refine ob ?_
 refine awX ?_;(first|(simp only [F41,seval,h12,h13];done)|(simp only [F41,seval];first|(simp [h12,h13];done)))
theorem Ig (v0 v1 v2 v3:Value) (a b:List N4) (raw other:List Dem) (W:World) (o0:rC (cSl 4 cN4) (nO xK) W (LT W.heap.size) [v0] a) (o1:rC (cSl 4 cN4) (nO xK) W (LT W.heap.size) [v1] b) (o2:rC (cSl 4 dn) (nO Ce) W (LT W.heap.size) [v2] raw) (o3:rC (cSl 4 dn) (nO Ce) W (LT W.heap.size) [v3] other):
  Calls prog 7 #[v0,v1,v2,v3] W fun e w'=>e= .returned (.bool true)/\Below W.heap.size W w':=by
 obtain ⟨h0,k0⟩:=fH o0 rfl;obtain ⟨h1,k1⟩:=fH o1 rfl;obtain ⟨h2,k2⟩:=fH o2 rfl;obtain ⟨h3,k3⟩:=fH o3 rfl;exact tR (vs:=[v0,v1,v2,v3]) (IZ a b raw other k0 k1 k2 k3) ⟨h0,h1,h2,h3,trivial⟩
end Go.Proofs.YtcgpghifhehlhaaGreatDoor
