/- The example of the chapter on payments back: it answers true; walked by the abstract machine. -/
import Derived.Test.YtcgpghifhehlhaaGreatDoorAw28sM
import Derived.Test.YtcgpghifhehlhaaGreatDoorGu1M
import Derived.Test.YtcgpghifhehlhaaGreatDoorAbZM
import Derived.Test.YtcgpghifhehlhaaGreatDoorAbUM
import Derived.Test.YtcgpghifhehlhaaGreatDoorAbBM
import Derived.Test.YtcgpghifhehlhaaGreatDoorCb5M
set_option linter.unusedVariables false
set_option maxHeartbeats 4000000
set_option maxRecDepth 100000
set_option linter.unusedSimpArgs false
set_option linter.defProp false
namespace Go.Proofs.YtcgpghifhehlhaaGreatDoor
open Go Go.RowKit Go.Proofs.Tryz
theorem Ej (n:Nat) (h:n<=1000) (he:cS (enc (((n:Nat):Int):Rat))=w9 n):ch prog 12 [.one (.lit (.int .i64 (n:Int)))] (.val (.agg (w9 n))):=by
 have h1:=fG (n:Int) (by omega) (by omega);rw [he] at h1;exact h1
theorem Cu (n:Nat):oc [.bool false,.string (cB n),.string cc] [.bool false,.string (cB n),.string cc]=true:=by simp [oc,eqV]
def F34:=And.intro zS (And.intro yD (And.intro jU (And.intro tB (And.intro mf (And.intro xi (And.intro yE (And.intro yF (And.intro zw (And.intro I0 (And.intro u9 (And.intro yG (And.intro tf0 (And.intro zA (And.intro zB (And.intro pn (And.intro nK (And.intro nL (And.intro po (And.intro nM (And.intro nN (And.intro vd (qO))))))))))))))))))))))
theorem F35:type_of%F34:=F34
theorem vE:ch prog 19 [] (one (.bool true)):=by
 have hW10:=Ej 10 (by decide) (by kernel_rfl);have hW20:=Ej 20 (by decide) (by kernel_rfl);have hW30:=Ej 30 (by decide) (by kernel_rfl);have hRv:=Eh;have hSo:=Ei;simp only [w9,cl9,bf,x9,s9,g9,r9,List.cons_append,List.nil_append] at hW10 hW20 hW30 hRv hSo;refine bF func19 rfl (by decide) (N:=68) rfl (by simp) (R:=[.tmp 0]) rfl fun en k0=>?_
 refine awN ?_;simp only [F35,seval,w9,cl9,bf,x9,s9,g9,r9,List.cons_append,List.nil_append];repeat refine ob ?_
 refine awN ?_;simp only [F35,seval,w9,cl9,bf,x9,s9,g9,r9,List.cons_append,List.nil_append];repeat refine ob ?_
 refine ⟨_,hW10,rfl,?_⟩;try simp only [aq,F35,seval,w9,cl9,bf,x9,s9,g9,r9,List.cons_append,List.nil_append]
 repeat refine ob ?_
 refine ⟨_,hW30,rfl,?_⟩;try simp only [aq,F35,seval,w9,cl9,bf,x9,s9,g9,r9,List.cons_append,List.nil_append]
 repeat refine ob ?_
 refine ao 9 11 3 (by rfl) (by rfl) (by rfl) (by decide) (by show (5:Nat)≠0;decide) (by show (5:Nat)≠0;decide) rfl ?_;simp only [F35,seval];refine ao 11 1 0 (by rfl) (by rfl) (by rfl) (by decide) (by show (5:Nat)≠0;decide) (by show (2:Nat)≠0;decide) rfl ?_;simp only [F35,seval];repeat' first|apply awS|apply awB
 refine lI [18] (by kernel_rfl) (.cons 0 true (.two 1 8 (.cons 2 true (.two 3 8 (.two 4 8 (.cons 5 true (.cons 6 true (.cons 7 true (.cons 8 false (.cons 9 false (.cons 10 true .nil)))))) (.cons 4 false (.cons 5 true (.cons 6 true (.cons 7 true (.cons 9 false (.cons 10 true .nil))))))) (.cons 3 false (.cons 4 false (.cons 5 true (.cons 6 true (.cons 7 true (.cons 9 false (.cons 10 true .nil))))))))) (.cons 1 false (.cons 2 true (.cons 3 false (.cons 4 false (.cons 5 true (.cons 6 true (.cons 7 true (.cons 9 false (.cons 10 true .nil))))))))))) (by kernel_rfl) (gs:=[none,none,none,none,none,none,none,none,none,none,none]) (by kernel_rfl) (by simp only [zT,seval];rfl) (by decide) ?_;simp only [F35,seval,w9,cl9,bf,x9,s9,g9,r9,List.cons_append,List.nil_append,(id SD),(id SD)];repeat refine ob ?_
 refine ⟨?_,?_⟩
 ·repeat refine ob ?_
  refine ⟨_,hW30,rfl,?_⟩;try simp only [aq,F35,seval,w9,cl9,bf,x9,s9,g9,r9,List.cons_append,List.nil_append,(id SD)]
  repeat refine ob ?_
  refine ⟨?_,?_⟩
  ·repeat refine ob ?_
   refine ⟨?_,?_⟩
   ·repeat refine ob ?_
    refine ⟨_,d6 (nm:=17) hRv (by simp [bu,aI,av,az,A1.cells]) (by simp [aI,av,az,A1.cells]) (fun e σ w vs hW hx hd=>?_),?_⟩
    ·obtain ⟨v1,vs1,rfl,d1,hd1⟩:=cC hd;obtain ⟨v2,vs2,rfl,d2,hd2⟩:=cC hd1;exact ⟨n8 hx d1,qx hW d2 rfl rfl (by show (6:Nat)≠0;decide),(by cases vs2 with|nil=>exact trivial|cons v vs=>exact hd2.elim)⟩
    rintro res H' nx' ⟨rfl,rfl,rfl⟩;simp only [F35,seval,(id SD)];repeat refine ob ?_
    refine awN ?_;simp only [F35,seval,w9,cl9,bf,x9,s9,g9,r9,List.cons_append,List.nil_append];repeat refine ob ?_
    refine ⟨_,hSo,rfl,?_⟩;try simp only [aq,F35,seval,w9,cl9,bf,x9,s9,g9,r9,List.cons_append,List.nil_append]
    repeat refine ob ?_
    have hq:=qg ⟨false,cB 20,cc⟩ ⟨false,cB 20,cc⟩;have hqv:=Cu 20;refine awD (scT 0 29 (scq [58] (scT 30 9 (scq [78,81,83,85] .nil)))) [0,0,0,59,59,0,0,0,0,71,71,71,71,0,0,83,83,83,83,83,83,0,0,99,99,99,99,99,99,99,99,0,0,119,119,119,119,119,119,119,119,0,0] ?_;simp only [F35,seval,w9,cl9,bf,x9,s9,g9,r9,List.cons_append,List.nil_append,hqv,BEq.rfl,decide_true];repeat refine ob ?_
    refine ⟨_,hW20,rfl,?_⟩;try simp only [aq,F35,seval,w9,cl9,bf,x9,s9,g9,r9,List.cons_append,List.nil_append,hqv,BEq.rfl,decide_true]
    repeat refine ob ?_
    try refine ⟨hq,?_⟩
    repeat refine ob ?_
    refine ⟨_,hW20,rfl,?_⟩;try simp only [aq,F35,seval,w9,cl9,bf,x9,s9,g9,r9,List.cons_append,List.nil_append,hqv,BEq.rfl,decide_true]
    repeat refine ob ?_
    try refine ⟨hq,?_⟩
    repeat refine ob ?_
    refine awX ?_;(first|(simp only [F35,seval,w9,cl9,bf,x9,s9,g9,r9,List.cons_append,List.nil_append];done)|(simp only [F35,seval,w9,cl9,bf,x9,s9,g9,r9,List.cons_append,List.nil_append];first|(simp [];done)))
   repeat refine ob ?_
   refine ⟨_,d6 (nm:=17) hRv (by simp [bu,aI,av,az,A1.cells]) (by simp [aI,av,az,A1.cells]) (fun e σ w vs hW hx hd=>?_),?_⟩
   ·obtain ⟨v1,vs1,rfl,d1,hd1⟩:=cC hd;obtain ⟨v2,vs2,rfl,d2,hd2⟩:=cC hd1;exact ⟨n8 hx d1,qx hW d2 rfl rfl (by show (6:Nat)≠0;decide),(by cases vs2 with|nil=>exact trivial|cons v vs=>exact hd2.elim)⟩
   rintro res H' nx' ⟨rfl,rfl,rfl⟩;simp only [F35,seval,(id SD)];repeat refine ob ?_
   refine awN ?_;simp only [F35,seval,w9,cl9,bf,x9,s9,g9,r9,List.cons_append,List.nil_append];repeat refine ob ?_
   refine ⟨_,hSo,rfl,?_⟩;try simp only [aq,F35,seval,w9,cl9,bf,x9,s9,g9,r9,List.cons_append,List.nil_append]
   repeat refine ob ?_
   have hq:=qg ⟨false,cB 20,cc⟩ ⟨false,cB 20,cc⟩;have hqv:=Cu 20;refine awD (scT 0 29 (scq [58] (scT 30 9 (scq [78,81,83,85] .nil)))) [0,0,0,59,59,0,0,0,0,71,71,71,71,0,0,83,83,83,83,83,83,0,0,99,99,99,99,99,99,99,99,0,0,119,119,119,119,119,119,119,119,0,0] ?_;simp only [F35,seval,w9,cl9,bf,x9,s9,g9,r9,List.cons_append,List.nil_append,hqv,BEq.rfl,decide_true];repeat refine ob ?_
   refine ⟨_,hW20,rfl,?_⟩;try simp only [aq,F35,seval,w9,cl9,bf,x9,s9,g9,r9,List.cons_append,List.nil_append,hqv,BEq.rfl,decide_true]
   repeat refine ob ?_
   try refine ⟨hq,?_⟩
   repeat refine ob ?_
   refine ⟨_,hW20,rfl,?_⟩;try simp only [aq,F35,seval,w9,cl9,bf,x9,s9,g9,r9,List.cons_append,List.nil_append,hqv,BEq.rfl,decide_true]
   repeat refine ob ?_
   try refine ⟨hq,?_⟩
   repeat refine ob ?_
   refine awX ?_;(first|(simp only [F35,seval,w9,cl9,bf,x9,s9,g9,r9,List.cons_append,List.nil_append];done)|(simp only [F35,seval,w9,cl9,bf,x9,s9,g9,r9,List.cons_append,List.nil_append];first|(simp [];done)))
  repeat refine ob ?_
  refine ⟨_,d6 (nm:=17) hRv (by simp [bu,aI,av,az,A1.cells]) (by simp [aI,av,az,A1.cells]) (fun e σ w vs hW hx hd=>?_),?_⟩
  ·obtain ⟨v1,vs1,rfl,d1,hd1⟩:=cC hd;obtain ⟨v2,vs2,rfl,d2,hd2⟩:=cC hd1;exact ⟨n8 hx d1,qx hW d2 rfl rfl (by show (6:Nat)≠0;decide),(by cases vs2 with|nil=>exact trivial|cons v vs=>exact hd2.elim)⟩
  rintro res H' nx' ⟨rfl,rfl,rfl⟩;simp only [F35,seval,(id SD)];repeat refine ob ?_
  refine awN ?_;simp only [F35,seval,w9,cl9,bf,x9,s9,g9,r9,List.cons_append,List.nil_append];repeat refine ob ?_
  refine ⟨_,hSo,rfl,?_⟩;try simp only [aq,F35,seval,w9,cl9,bf,x9,s9,g9,r9,List.cons_append,List.nil_append]
  repeat refine ob ?_
  have hq:=qg ⟨false,cB 20,cc⟩ ⟨false,cB 20,cc⟩;have hqv:=Cu 20;refine awD (scT 0 29 (scq [58] (scT 30 9 (scq [78,81,83,85] .nil)))) [0,0,0,59,59,0,0,0,0,71,71,71,71,0,0,83,83,83,83,83,83,0,0,99,99,99,99,99,99,99,99,0,0,119,119,119,119,119,119,119,119,0,0] ?_;simp only [F35,seval,w9,cl9,bf,x9,s9,g9,r9,List.cons_append,List.nil_append,hqv,BEq.rfl,decide_true];repeat refine ob ?_
  refine ⟨_,hW20,rfl,?_⟩;try simp only [aq,F35,seval,w9,cl9,bf,x9,s9,g9,r9,List.cons_append,List.nil_append,hqv,BEq.rfl,decide_true]
  repeat refine ob ?_
  try refine ⟨hq,?_⟩
  repeat refine ob ?_
  refine ⟨_,hW20,rfl,?_⟩;try simp only [aq,F35,seval,w9,cl9,bf,x9,s9,g9,r9,List.cons_append,List.nil_append,hqv,BEq.rfl,decide_true]
  repeat refine ob ?_
  try refine ⟨hq,?_⟩
  repeat refine ob ?_
  refine awX ?_;(first|(simp only [F35,seval,w9,cl9,bf,x9,s9,g9,r9,List.cons_append,List.nil_append];done)|(simp only [F35,seval,w9,cl9,bf,x9,s9,g9,r9,List.cons_append,List.nil_append];first|(simp [];done)))
 repeat refine ob ?_
 refine ⟨_,hW30,rfl,?_⟩;try simp only [aq,F35,seval,w9,cl9,bf,x9,s9,g9,r9,List.cons_append,List.nil_append,(id SD)]
 repeat refine ob ?_
 refine ⟨_,d6 (nm:=17) hRv (by simp [bu,aI,av,az,A1.cells]) (by simp [aI,av,az,A1.cells]) (fun e σ w vs hW hx hd=>?_),?_⟩
 ·obtain ⟨v1,vs1,rfl,d1,hd1⟩:=cC hd;obtain ⟨v2,vs2,rfl,d2,hd2⟩:=cC hd1;exact ⟨n8 hx d1,qx hW d2 rfl rfl (by show (6:Nat)≠0;decide),(by cases vs2 with|nil=>exact trivial|cons v vs=>exact hd2.elim)⟩
 rintro res H' nx' ⟨rfl,rfl,rfl⟩;simp only [F35,seval,(id SD)];repeat refine ob ?_
 refine awN ?_;simp only [F35,seval,w9,cl9,bf,x9,s9,g9,r9,List.cons_append,List.nil_append];repeat refine ob ?_
 refine ⟨_,hSo,rfl,?_⟩;try simp only [aq,F35,seval,w9,cl9,bf,x9,s9,g9,r9,List.cons_append,List.nil_append]
 repeat refine ob ?_
 have hq:=qg ⟨false,cB 20,cc⟩ ⟨false,cB 20,cc⟩;have hqv:=Cu 20;refine awD (scT 0 29 (scq [58] (scT 30 9 (scq [78,81,83,85] .nil)))) [0,0,0,59,59,0,0,0,0,71,71,71,71,0,0,83,83,83,83,83,83,0,0,99,99,99,99,99,99,99,99,0,0,119,119,119,119,119,119,119,119,0,0] ?_;simp only [F35,seval,w9,cl9,bf,x9,s9,g9,r9,List.cons_append,List.nil_append,hqv,BEq.rfl,decide_true];repeat refine ob ?_
 refine ⟨_,hW20,rfl,?_⟩;try simp only [aq,F35,seval,w9,cl9,bf,x9,s9,g9,r9,List.cons_append,List.nil_append,hqv,BEq.rfl,decide_true]
 repeat refine ob ?_
 try refine ⟨hq,?_⟩
 repeat refine ob ?_
 refine ⟨_,hW20,rfl,?_⟩;try simp only [aq,F35,seval,w9,cl9,bf,x9,s9,g9,r9,List.cons_append,List.nil_append,hqv,BEq.rfl,decide_true]
 repeat refine ob ?_
 try refine ⟨hq,?_⟩
 repeat refine ob ?_
 refine awX ?_;(first|(simp only [F35,seval,w9,cl9,bf,x9,s9,g9,r9,List.cons_append,List.nil_append];done)|(simp only [F35,seval,w9,cl9,bf,x9,s9,g9,r9,List.cons_append,List.nil_append];first|(simp [];done)))
theorem Jg (d:Dem):∀l,FG (Fu d l)=FG l+d.cts
 |[]=>by simp [Fu,FG]
 |x::l=>by
  simp only [Fu];split
  ·simp only [FG,Jg d l];omega
  split
  ·simp only [FG];omega
  simp only [FG];omega
theorem Jh:∀(l out:List Dem),FG (l.foldl rb out)=FG out+FG l
 |[],out=>by simp [FG]
 |d::l,out=>by
  rw [List.foldl_cons,Jh l];unfold rb;split
  ·rename_i h;simp only [FG];omega
  rw [Jg];simp only [FG];omega
theorem mb (m:Int):∀(l:List Dem),(∀x∈l,0<=x.cts/\x.cts<=m)->0<=FG l/\FG l<=l.length*m
 |[],_=>by simp [FG]
 |d::l,h=>by
  have h1:=mb m l fun x hx=>h x (by simp [hx])
  have h2:=h d (by simp);simp only [FG,List.length_cons,Int.natCast_add,Int.add_mul,Int.natCast_one,Int.one_mul];omega
theorem na (l:List Dem) (k:Nat) (h:k<l.length):FG (l.take (k+1))=FG (l.take k)+l[k].cts:=by
 rw [List.take_succ_eq_append_getElem h,um];simp [FG]
theorem Jf (m:Int) (hm:0<=m) (l:List Dem) (k:Nat) (h:∀x∈l,0<=x.cts/\x.cts<=m):0<=FG (l.take k)/\FG (l.take k)<=l.length*m:=by
 have h1:=mb m (l.take k) fun x hx=>h x (List.mem_of_mem_take hx)
 refine ⟨h1.1,Int.le_trans h1.2 (Int.mul_le_mul_of_nonneg_right ?_ hm)⟩;rw [List.length_take];omega
theorem Je (l:List N4):∀x∈dmL l,0<=x.cts/\x.cts<=700:=fun x hx=>by
 obtain ⟨q,_,rfl⟩:=List.mem_map.1 hx;simp only [dmF];omega
theorem Jk (p q:List Dem) (hp:p.length<=10) (hq:q.length<=10) (h1:∀x∈p,0<=x.cts/\x.cts<=700) (h2:∀x∈q,0<=x.cts/\x.cts<=700):
  ∃X:List Dem,mgT p q=(X,0)/\mgT q p=(X,0)/\X.length<=20/\FG X=FG p+FG q/\∀x∈X,0<=x.cts/\x.cts<=14000:=by
 have hall:∀x∈p++q,0<=x.cts/\x.cts<=700:=fun x hx=>(List.mem_append.1 hx).elim (h1 x) (h2 x)
 have hb:∀l:List Dem,(∀x∈l,0<=x.cts/\x.cts<=700)->¬l.any FP=true:=fun l hl h=>by
  obtain ⟨x,hx,hbx⟩:=List.any_eq_true.1 h;have:=hl x hx;simp [FP,inR] at hbx;omega
 obtain ⟨a1,a2,a3,a4⟩:=GR 700 (by decide) (p++q) [] 0 (by omega) ⟨by simp,by simp⟩ (by simp) hall;have hperm:=Ji 700 (by decide) (p++q) (q++p) List.perm_append_comm hall;have hlen:(p++q).length<=20:=by rw [List.length_append];omega
 simp only [List.length_nil,Nat.zero_add] at a4;refine ⟨(p++q).foldl rb [],?_,?_,by omega,by rw [Jh,um];simp [FG],fun x hx=>⟨by have:=a1.2 x hx;omega,Int.le_trans (a2 x hx) ?_⟩⟩
 ·unfold mgT;rw [if_neg (by omega),if_neg (hb _ hall),if_neg (by omega)]
 ·unfold mgT;rw [if_neg (by omega),if_neg (hb _ fun x hx=>(List.mem_append.1 hx).elim (h2 x) (h1 x)),←hperm,if_neg (by omega)]
 have:(((p++q).length:Nat):Int)<=20:=by omega
 omega
def F36:=And.intro zS (And.intro tA (And.intro tu (And.intro xg (xh))))
theorem F37:type_of%F36:=F36
theorem Jl (a b:List N4) (hla:nO xK a) (hlb:nO xK b):ch prog 9 [.one (.sh 4 a.length (ar cN4 a)),.one (.sh 4 b.length (ar cN4 b))] (one (.bool true)):=by
 have hn1:a.length<=9223372036854775807:=Nat.le_trans hla.1 (by decide);have hn2:b.length<=9223372036854775807:=Nat.le_trans hlb.1 (by decide);refine bF func9 rfl (by decide) (N:=88) rfl (by simp) (R:=[.tmp 4]) rfl fun en k0=>?_
 refine awN ?_;simp only [F37,seval];repeat refine ob ?_
 have hD1:=Cy a (by omega);have hD2:=Cy b (by omega);obtain ⟨X,hX1,hX2,hXl,hXs,hcX⟩:=Jk (dmL a) (dmL b) (Dl a) (Dl b) (Je a) (Je b);have hcp:=Je a;have hcq:=Je b;have hp10:=Dl a;have hq10:=Dl b;have hM1:=G6 (dmL a) (dmL b) (by omega) (by omega);have hM2:=G6 (dmL b) (dmL a) (by omega) (by omega);rw [hX1] at hM1;rw [hX2] at hM2;unfold mgV at hM1 hM2;dsimp only at hM1 hM2;generalize dmL a=p at *
 generalize dmL b=q at *
 have hS1:=Ft X (by omega);have hbp:=mb 700 p hcp;have hbq:=mb 700 q hcq;have hbX:=mb 14000 X hcX;refine awN ?_;simp only [F37,seval,ab dm,ab aC];repeat refine ob ?_
 refine ⟨_,hD1,(by first|rfl|simp [bu,aI,av,az,A1.cells,ab dm,ab aC]),?_⟩;try simp only [aq,F37,seval,ab dm,ab aC]
 repeat refine ob ?_
 refine ⟨_,hD2,(by first|rfl|simp [bu,aI,av,az,A1.cells,ab dm,ab aC]),?_⟩;try simp only [aq,F37,seval,ab dm,ab aC]
 repeat refine ob ?_
 refine awN ?_;simp only [F37,seval,ab dm,ab aC];repeat refine ob ?_
 refine ⟨_,hM1,(by first|rfl|simp [bu,aI,av,az,A1.cells,ab dm,ab aC]),?_⟩;try simp only [aq,F37,seval,ab dm,ab aC]
 repeat refine ob ?_
 refine awN ?_;simp only [F37,seval,ab dm,ab aC];repeat refine ob ?_
 refine ⟨_,hM2,(by first|rfl|simp [bu,aI,av,az,A1.cells,ab dm,ab aC]),?_⟩;try simp only [aq,F37,seval,ab dm,ab aC]
 repeat refine ob ?_
 refine awN ?_;simp only [F37,seval];repeat refine ob ?_
 refine awN ?_;simp only [F37,seval];repeat refine ob ?_
 refine aQ [5,6,7,8,9,10,11,12] [] ?_;try simp only [aq,F37,seval]
 repeat' first|apply awS|apply awB
 refine aB (fun n st=>∃k nx,k<=p.length/\n=p.length-k/\st=⟨mkT [(5,.val (.one (.sh 4 p.length (ar dn p)))),(6,.val (.one (.sh 4 q.length (ar dn q)))),(7,.val (.one (.sh 4 X.length (ar dn X)))),(8,one (.int .i64 0)),(9,.val (.one (.sh 4 X.length (ar dn X)))),(10,one (.int .i64 0)),(11,one (.int .i64 (FG (p.take k)))),(12,one (.int .i64 k))],mkH [],nx,0⟩) (p.length) ⟨0,_,by omega,by omega,by simp only [F37,seval,List.take_zero,FG,Int.add_zero,Int.sub_zero,Int.natCast_zero];first|rfl|(simp;done)⟩ ?_;rintro n0 st ⟨k,nx0,hk,rfl,rfl⟩;by_cases hi0:(k:Int)<(p.length:Int)
 ·refine awN ?_;simp only [F37,seval,hi0];repeat refine ob ?_
  refine awT ?_;refine awK ?_;simp only [F37,seval];have hkl:k<p.length:=by omega
  have hat:=aO AF p k hkl;have hct:=na p k hkl;have hb1:=Jf 700 (by decide) p k hcp;have hb2:=hcp p[k] (List.getElem_mem hkl);generalize p[k]=d at *
  have hac:FG (p.take k)+d.cts=FG (p.take (k+1)):=by first|omega|(rw [hct];omega)|rw [hct]
  simp only [dn] at hat;refine awN ?_;simp only [F37,seval,hi0,hat];repeat refine ob ?_
  refine awN ?_;simp only [F37,seval,hi0];repeat refine ob ?_
  repeat refine ob ?_
  refine ⟨_,aH [5,6,7,8,9,10,11,12] [],p.length-(k+1),by omega,k+1,?na10,by omega,rfl,?st10⟩;case st10=>(simp only [F37,seval,hac];first|rfl|(simp;done))
 refine awN ?_;simp only [F37,seval,hi0];repeat refine ob ?_
 refine awF ?_;refine awQ ?_;simp only [F37,seval];obtain rfl:k=p.length:=by omega
 rw [List.take_length];refine awN ?_;simp only [F37,seval,hi0];repeat refine ob ?_
 refine aQ [5,6,7,8,9,10,11,13] [] ?_;try simp only [aq,F37,seval,hi0]
 repeat' first|apply awS|apply awB
 refine aB (fun n st=>∃k nx,k<=q.length/\n=q.length-k/\st=⟨mkT [(5,.val (.one (.sh 4 p.length (ar dn p)))),(6,.val (.one (.sh 4 q.length (ar dn q)))),(7,.val (.one (.sh 4 X.length (ar dn X)))),(8,one (.int .i64 0)),(9,.val (.one (.sh 4 X.length (ar dn X)))),(10,one (.int .i64 0)),(11,one (.int .i64 (FG p+FG (q.take k)))),(13,one (.int .i64 k))],mkH [],nx,0⟩) (q.length) ⟨0,_,by omega,by omega,by simp only [F37,seval,List.take_zero,FG,Int.add_zero,Int.sub_zero,Int.natCast_zero];first|rfl|(simp;done)⟩ ?_;rintro n1 st ⟨k,nx1,hk,rfl,rfl⟩;by_cases hi1:(k:Int)<(q.length:Int)
 ·refine awN ?_;simp only [F37,seval,hi0,hi1];repeat refine ob ?_
  refine awT ?_;refine awK ?_;simp only [F37,seval];have hkl:k<q.length:=by omega
  have hat:=aO AF q k hkl;have hct:=na q k hkl;have hb1:=Jf 700 (by decide) q k hcq;have hb2:=hcq q[k] (List.getElem_mem hkl);generalize q[k]=d at *
  have hac:FG p+FG (q.take k)+d.cts=FG p+FG (q.take (k+1)):=by first|omega|(rw [hct];omega)|rw [hct]
  simp only [dn] at hat;refine awN ?_;simp only [F37,seval,hi0,hi1,hat];repeat refine ob ?_
  refine awN ?_;simp only [F37,seval,hi0,hi1];repeat refine ob ?_
  repeat refine ob ?_
  refine ⟨_,aH [5,6,7,8,9,10,11,13] [],q.length-(k+1),by omega,k+1,?na16,by omega,rfl,?st16⟩;case st16=>(simp only [F37,seval,hac];first|rfl|(simp;done))
 refine awN ?_;simp only [F37,seval,hi0,hi1];repeat refine ob ?_
 refine awF ?_;refine awQ ?_;simp only [F37,seval];obtain rfl:k=q.length:=by omega
 rw [List.take_length];refine awN ?_;simp only [F37,seval,hi0,hi1];repeat refine ob ?_
 refine aQ [5,6,7,8,9,10,11,14] [] ?_;try simp only [aq,F37,seval,hi0,hi1]
 repeat' first|apply awS|apply awB
 refine aB (fun n st=>∃k nx,k<=X.length/\n=X.length-k/\st=⟨mkT [(5,.val (.one (.sh 4 p.length (ar dn p)))),(6,.val (.one (.sh 4 q.length (ar dn q)))),(7,.val (.one (.sh 4 X.length (ar dn X)))),(8,one (.int .i64 0)),(9,.val (.one (.sh 4 X.length (ar dn X)))),(10,one (.int .i64 0)),(11,one (.int .i64 (FG p+FG q-FG (X.take k)))),(14,one (.int .i64 k))],mkH [],nx,0⟩) (X.length) ⟨0,_,by omega,by omega,by simp only [F37,seval,List.take_zero,FG,Int.add_zero,Int.sub_zero,Int.natCast_zero];first|rfl|(simp;done)⟩ ?_;rintro n2 st ⟨k,nx2,hk,rfl,rfl⟩;by_cases hi2:(k:Int)<(X.length:Int)
 ·refine awN ?_;simp only [F37,seval,hi0,hi1,hi2];repeat refine ob ?_
  refine awT ?_;refine awK ?_;simp only [F37,seval];have hkl:k<X.length:=by omega
  have hat:=aO AF X k hkl;have hct:=na X k hkl;have hb1:=Jf 14000 (by decide) X k hcX;have hb2:=hcX X[k] (List.getElem_mem hkl);generalize X[k]=d at *
  have hac:FG p+FG q-FG (X.take k)-d.cts=FG p+FG q-FG (X.take (k+1)):=by first|omega|(rw [hct];omega)|rw [hct]
  simp only [dn] at hat;refine awN ?_;simp only [F37,seval,hi0,hi1,hi2,hat];repeat refine ob ?_
  refine awN ?_;simp only [F37,seval,hi0,hi1,hi2];repeat refine ob ?_
  repeat refine ob ?_
  refine ⟨_,aH [5,6,7,8,9,10,11,14] [],X.length-(k+1),by omega,k+1,?na22,by omega,rfl,?st22⟩;case st22=>(simp only [F37,seval,hac];first|rfl|(simp;done))
 refine awN ?_;simp only [F37,seval,hi0,hi1,hi2];repeat refine ob ?_
 refine awF ?_;refine awQ ?_;simp only [F37,seval];obtain rfl:k=X.length:=by omega
 rw [List.take_length];have hz:FG p+FG q-FG X=0:=by omega
 refine awR [] [0,0,145,145,0,0,153,153,0,0,161,161,161,0,0,171,171,0,0] ?_;simp only [F37,seval,hi0,hi1,hi2,ab dm,ab aC,hz,decide_true,BEq.rfl];repeat refine ob ?_
 refine ⟨_,vE,(by first|rfl|simp [bu,aI,av,az,A1.cells,ab dm,ab aC]),?_⟩;try simp only [aq,F37,seval,hi0,hi1,hi2,ab dm,ab aC,hz,decide_true,BEq.rfl]
 repeat refine ob ?_
 refine ⟨_,hS1,(by first|rfl|simp [bu,aI,av,az,A1.cells,ab dm,ab aC]),?_⟩;try simp only [aq,F37,seval,hi0,hi1,hi2,ab dm,ab aC,hz,decide_true,BEq.rfl]
 repeat refine ob ?_
 refine awX ?_;(first|(simp only [F37,seval,hi0,hi1,hi2];done)|(simp only [F37,seval];first|(simp [hi0,hi1,hi2];done)))
theorem Jj (v0 v1:Value) (a b:List N4) (W:World) (o0:rC (cSl 4 cN4) (nO xK) W (LT W.heap.size) [v0] a) (o1:rC (cSl 4 cN4) (nO xK) W (LT W.heap.size) [v1] b):
  Calls prog 9 #[v0,v1] W fun e w'=>e= .returned (.bool true)/\Below W.heap.size W w':=by
 obtain ⟨h0,k0⟩:=fH o0 rfl;obtain ⟨h1,k1⟩:=fH o1 rfl;exact tR (vs:=[v0,v1]) (Jl a b k0 k1) ⟨h0,h1,trivial⟩
end Go.Proofs.YtcgpghifhehlhaaGreatDoor
