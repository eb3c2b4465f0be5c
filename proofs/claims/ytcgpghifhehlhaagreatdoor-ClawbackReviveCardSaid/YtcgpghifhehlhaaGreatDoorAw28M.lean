/- The example of the chapter on payments back: it answers true; walked by the abstract machine. -/
import Derived.Test.YtcgpghifhehlhaaGreatDoorAw28sM
import Derived.Test.YtcgpghifhehlhaaGreatDoorLawM
import Derived.Test.YtcgpghifhehlhaaGreatDoorAbGM
import Derived.Test.YtcgpghifhehlhaaGreatDoorAbUM
import Derived.Test.YtcgpghifhehlhaaGreatDoorSg2M
import Derived.Test.YtcgpghifhehlhaaGreatDoorBl5M
import Derived.Test.YtcgpghifhehlhaaGreatDoorCc2M
set_option linter.unusedVariables false
set_option maxHeartbeats 4000000
set_option maxRecDepth 100000
set_option linter.unusedSimpArgs false
set_option linter.defProp false
namespace Go.Proofs.YtcgpghifhehlhaaGreatDoor
open Go Go.RowKit Go.Proofs.Tryz
theorem Ej (n:Nat) (h:n<=1000) (he:cS (enc (((n:Nat):Int):Rat))=w9 n):ch prog 12 [.one (.lit (.int .i64 (n:Int)))] (.val (.agg (w9 n))):=by
 have h1:=fG (n:Int) (by omega) (by omega);rw [he] at h1;exact h1
theorem Cu (n:Nat):oc [.bool false,.string (Jn n),.string cc] [.bool false,.string (Jn n),.string cc]=true:=by simp [oc,eqV]
def F82:=And.intro zS (And.intro Me (And.intro Mf (And.intro Mg (And.intro jS (And.intro nL (And.intro Mh (And.intro Lh (And.intro Mi (And.intro Mj (And.intro Mk (And.intro qO (And.intro mf (And.intro Ml (And.intro Ah (And.intro Ai (And.intro Aj (And.intro LP (And.intro tC (And.intro zE (And.intro zF (And.intro KJ (Mm))))))))))))))))))))))
theorem F83:type_of%F82:=F82
theorem vE:ch prog 19 [] (one (.bool true)):=by
 have hW10:=Ej 10 (by decide) (by kernel_rfl);have hW20:=Ej 20 (by decide) (by kernel_rfl);have hW30:=Ej 30 (by decide) (by kernel_rfl);have hRv:=Eh;have hSo:=Ei;simp only [w9,cl9,bf,x9,s9,g9,r9,List.cons_append,List.nil_append] at hW10 hW20 hW30 hRv hSo;refine bF func19 rfl (by decide) (N:=68) rfl (by simp) (R:=[.tmp 0]) rfl fun en k0=>?_
 refine awN ?_;simp only [F83,seval,w9,cl9,bf,x9,s9,g9,r9,List.cons_append,List.nil_append];repeat refine ob ?_
 refine awN ?_;simp only [F83,seval,w9,cl9,bf,x9,s9,g9,r9,List.cons_append,List.nil_append];repeat refine ob ?_
 refine ⟨_,hW10,rfl,?_⟩;try simp only [aq,F83,seval,w9,cl9,bf,x9,s9,g9,r9,List.cons_append,List.nil_append]
 repeat refine ob ?_
 refine ⟨_,hW30,rfl,?_⟩;try simp only [aq,F83,seval,w9,cl9,bf,x9,s9,g9,r9,List.cons_append,List.nil_append]
 repeat refine ob ?_
 refine ao 9 11 3 (by rfl) (by rfl) (by rfl) (by decide) (by show (5:Nat)≠0;decide) (by show (5:Nat)≠0;decide) rfl ?_;simp only [F83,seval];refine ao 11 1 0 (by rfl) (by rfl) (by rfl) (by decide) (by show (5:Nat)≠0;decide) (by show (2:Nat)≠0;decide) rfl ?_;simp only [F83,seval];repeat' first|apply awS|apply awB
 refine lI [18] (by kernel_rfl) (.cons 0 true (.two 1 8 (.cons 2 true (.two 3 8 (.two 4 8 (.cons 5 true (.cons 6 true (.cons 7 true (.cons 8 false (.cons 9 false (.cons 10 true .nil)))))) (.cons 4 false (.cons 5 true (.cons 6 true (.cons 7 true (.cons 9 false (.cons 10 true .nil))))))) (.cons 3 false (.cons 4 false (.cons 5 true (.cons 6 true (.cons 7 true (.cons 9 false (.cons 10 true .nil))))))))) (.cons 1 false (.cons 2 true (.cons 3 false (.cons 4 false (.cons 5 true (.cons 6 true (.cons 7 true (.cons 9 false (.cons 10 true .nil))))))))))) (by kernel_rfl) (gs:=[none,none,none,none,none,none,none,none,none,none,none]) (by kernel_rfl) (by simp only [zT,seval];rfl) (by decide) ?_;simp only [F83,seval,w9,cl9,bf,x9,s9,g9,r9,List.cons_append,List.nil_append,(id SD),(id SD)];repeat refine ob ?_
 refine ⟨?_,?_⟩
 ·repeat refine ob ?_
  refine ⟨_,hW30,rfl,?_⟩;try simp only [aq,F83,seval,w9,cl9,bf,x9,s9,g9,r9,List.cons_append,List.nil_append,(id SD)]
  repeat refine ob ?_
  refine ⟨?_,?_⟩
  ·repeat refine ob ?_
   refine ⟨?_,?_⟩
   ·repeat refine ob ?_
    refine ⟨_,Jv (nm:=17) hRv (by simp [bu,aI,av,az,A1.cells]) (by simp [aI,av,az,A1.cells]) (fun e σ w vs hW hx hd=>?_),?_⟩
    ·obtain ⟨v1,vs1,rfl,d1,hd1⟩:=cC hd;obtain ⟨v2,vs2,rfl,d2,hd2⟩:=cC hd1;exact ⟨n8 hx d1,qx hW d2 rfl rfl (by show (6:Nat)≠0;decide),(by cases vs2 with|nil=>exact trivial|cons v vs=>exact hd2.elim)⟩
    rintro res H' nx' ⟨rfl,rfl,rfl⟩;simp only [F83,seval,(id SD)];repeat refine ob ?_
    refine awN ?_;simp only [F83,seval,w9,cl9,bf,x9,s9,g9,r9,List.cons_append,List.nil_append];repeat refine ob ?_
    refine ⟨_,hSo,rfl,?_⟩;try simp only [aq,F83,seval,w9,cl9,bf,x9,s9,g9,r9,List.cons_append,List.nil_append]
    repeat refine ob ?_
    have hq:=qg ⟨false,Jn 20,cc⟩ ⟨false,Jn 20,cc⟩;have hqv:=Cu 20;refine awD (scT 0 29 (scq [58] (scT 30 9 (scq [78,81,83,85] .nil)))) [0,0,0,59,59,0,0,0,0,71,71,71,71,0,0,83,83,83,83,83,83,0,0,99,99,99,99,99,99,99,99,0,0,119,119,119,119,119,119,119,119,0,0] ?_;simp only [F83,seval,w9,cl9,bf,x9,s9,g9,r9,List.cons_append,List.nil_append,hqv,BEq.rfl,decide_true];repeat refine ob ?_
    refine ⟨_,hW20,rfl,?_⟩;try simp only [aq,F83,seval,w9,cl9,bf,x9,s9,g9,r9,List.cons_append,List.nil_append,hqv,BEq.rfl,decide_true]
    repeat refine ob ?_
    try refine ⟨hq,?_⟩
    repeat refine ob ?_
    refine ⟨_,hW20,rfl,?_⟩;try simp only [aq,F83,seval,w9,cl9,bf,x9,s9,g9,r9,List.cons_append,List.nil_append,hqv,BEq.rfl,decide_true]
    repeat refine ob ?_
    try refine ⟨hq,?_⟩
    repeat refine ob ?_
    refine awX ?_;(first|(simp only [F83,seval,w9,cl9,bf,x9,s9,g9,r9,List.cons_append,List.nil_append];done)|(simp only [F83,seval,w9,cl9,bf,x9,s9,g9,r9,List.cons_append,List.nil_append];first|(simp [];done)))
   repeat refine ob ?_
   refine ⟨_,Jv (nm:=17) hRv (by simp [bu,aI,av,az,A1.cells]) (by simp [aI,av,az,A1.cells]) (fun e σ w vs hW hx hd=>?_),?_⟩
   ·obtain ⟨v1,vs1,rfl,d1,hd1⟩:=cC hd;obtain ⟨v2,vs2,rfl,d2,hd2⟩:=cC hd1;exact ⟨n8 hx d1,qx hW d2 rfl rfl (by show (6:Nat)≠0;decide),(by cases vs2 with|nil=>exact trivial|cons v vs=>exact hd2.elim)⟩
   rintro res H' nx' ⟨rfl,rfl,rfl⟩;simp only [F83,seval,(id SD)];repeat refine ob ?_
   refine awN ?_;simp only [F83,seval,w9,cl9,bf,x9,s9,g9,r9,List.cons_append,List.nil_append];repeat refine ob ?_
   refine ⟨_,hSo,rfl,?_⟩;try simp only [aq,F83,seval,w9,cl9,bf,x9,s9,g9,r9,List.cons_append,List.nil_append]
   repeat refine ob ?_
   have hq:=qg ⟨false,Jn 20,cc⟩ ⟨false,Jn 20,cc⟩;have hqv:=Cu 20;refine awD (scT 0 29 (scq [58] (scT 30 9 (scq [78,81,83,85] .nil)))) [0,0,0,59,59,0,0,0,0,71,71,71,71,0,0,83,83,83,83,83,83,0,0,99,99,99,99,99,99,99,99,0,0,119,119,119,119,119,119,119,119,0,0] ?_;simp only [F83,seval,w9,cl9,bf,x9,s9,g9,r9,List.cons_append,List.nil_append,hqv,BEq.rfl,decide_true];repeat refine ob ?_
   refine ⟨_,hW20,rfl,?_⟩;try simp only [aq,F83,seval,w9,cl9,bf,x9,s9,g9,r9,List.cons_append,List.nil_append,hqv,BEq.rfl,decide_true]
   repeat refine ob ?_
   try refine ⟨hq,?_⟩
   repeat refine ob ?_
   refine ⟨_,hW20,rfl,?_⟩;try simp only [aq,F83,seval,w9,cl9,bf,x9,s9,g9,r9,List.cons_append,List.nil_append,hqv,BEq.rfl,decide_true]
   repeat refine ob ?_
   try refine ⟨hq,?_⟩
   repeat refine ob ?_
   refine awX ?_;(first|(simp only [F83,seval,w9,cl9,bf,x9,s9,g9,r9,List.cons_append,List.nil_append];done)|(simp only [F83,seval,w9,cl9,bf,x9,s9,g9,r9,List.cons_append,List.nil_append];first|(simp [];done)))
  repeat refine ob ?_
  refine ⟨_,Jv (nm:=17) hRv (by simp [bu,aI,av,az,A1.cells]) (by simp [aI,av,az,A1.cells]) (fun e σ w vs hW hx hd=>?_),?_⟩
  ·obtain ⟨v1,vs1,rfl,d1,hd1⟩:=cC hd;obtain ⟨v2,vs2,rfl,d2,hd2⟩:=cC hd1;exact ⟨n8 hx d1,qx hW d2 rfl rfl (by show (6:Nat)≠0;decide),(by cases vs2 with|nil=>exact trivial|cons v vs=>exact hd2.elim)⟩
  rintro res H' nx' ⟨rfl,rfl,rfl⟩;simp only [F83,seval,(id SD)];repeat refine ob ?_
  refine awN ?_;simp only [F83,seval,w9,cl9,bf,x9,s9,g9,r9,List.cons_append,List.nil_append];repeat refine ob ?_
  refine ⟨_,hSo,rfl,?_⟩;try simp only [aq,F83,seval,w9,cl9,bf,x9,s9,g9,r9,List.cons_append,List.nil_append]
  repeat refine ob ?_
  have hq:=qg ⟨false,Jn 20,cc⟩ ⟨false,Jn 20,cc⟩;have hqv:=Cu 20;refine awD (scT 0 29 (scq [58] (scT 30 9 (scq [78,81,83,85] .nil)))) [0,0,0,59,59,0,0,0,0,71,71,71,71,0,0,83,83,83,83,83,83,0,0,99,99,99,99,99,99,99,99,0,0,119,119,119,119,119,119,119,119,0,0] ?_;simp only [F83,seval,w9,cl9,bf,x9,s9,g9,r9,List.cons_append,List.nil_append,hqv,BEq.rfl,decide_true];repeat refine ob ?_
  refine ⟨_,hW20,rfl,?_⟩;try simp only [aq,F83,seval,w9,cl9,bf,x9,s9,g9,r9,List.cons_append,List.nil_append,hqv,BEq.rfl,decide_true]
  repeat refine ob ?_
  try refine ⟨hq,?_⟩
  repeat refine ob ?_
  refine ⟨_,hW20,rfl,?_⟩;try simp only [aq,F83,seval,w9,cl9,bf,x9,s9,g9,r9,List.cons_append,List.nil_append,hqv,BEq.rfl,decide_true]
  repeat refine ob ?_
  try refine ⟨hq,?_⟩
  repeat refine ob ?_
  refine awX ?_;(first|(simp only [F83,seval,w9,cl9,bf,x9,s9,g9,r9,List.cons_append,List.nil_append];done)|(simp only [F83,seval,w9,cl9,bf,x9,s9,g9,r9,List.cons_append,List.nil_append];first|(simp [];done)))
 repeat refine ob ?_
 refine ⟨_,hW30,rfl,?_⟩;try simp only [aq,F83,seval,w9,cl9,bf,x9,s9,g9,r9,List.cons_append,List.nil_append,(id SD)]
 repeat refine ob ?_
 refine ⟨_,Jv (nm:=17) hRv (by simp [bu,aI,av,az,A1.cells]) (by simp [aI,av,az,A1.cells]) (fun e σ w vs hW hx hd=>?_),?_⟩
 ·obtain ⟨v1,vs1,rfl,d1,hd1⟩:=cC hd;obtain ⟨v2,vs2,rfl,d2,hd2⟩:=cC hd1;exact ⟨n8 hx d1,qx hW d2 rfl rfl (by show (6:Nat)≠0;decide),(by cases vs2 with|nil=>exact trivial|cons v vs=>exact hd2.elim)⟩
 rintro res H' nx' ⟨rfl,rfl,rfl⟩;simp only [F83,seval,(id SD)];repeat refine ob ?_
 refine awN ?_;simp only [F83,seval,w9,cl9,bf,x9,s9,g9,r9,List.cons_append,List.nil_append];repeat refine ob ?_
 refine ⟨_,hSo,rfl,?_⟩;try simp only [aq,F83,seval,w9,cl9,bf,x9,s9,g9,r9,List.cons_append,List.nil_append]
 repeat refine ob ?_
 have hq:=qg ⟨false,Jn 20,cc⟩ ⟨false,Jn 20,cc⟩;have hqv:=Cu 20;refine awD (scT 0 29 (scq [58] (scT 30 9 (scq [78,81,83,85] .nil)))) [0,0,0,59,59,0,0,0,0,71,71,71,71,0,0,83,83,83,83,83,83,0,0,99,99,99,99,99,99,99,99,0,0,119,119,119,119,119,119,119,119,0,0] ?_;simp only [F83,seval,w9,cl9,bf,x9,s9,g9,r9,List.cons_append,List.nil_append,hqv,BEq.rfl,decide_true];repeat refine ob ?_
 refine ⟨_,hW20,rfl,?_⟩;try simp only [aq,F83,seval,w9,cl9,bf,x9,s9,g9,r9,List.cons_append,List.nil_append,hqv,BEq.rfl,decide_true]
 repeat refine ob ?_
 try refine ⟨hq,?_⟩
 repeat refine ob ?_
 refine ⟨_,hW20,rfl,?_⟩;try simp only [aq,F83,seval,w9,cl9,bf,x9,s9,g9,r9,List.cons_append,List.nil_append,hqv,BEq.rfl,decide_true]
 repeat refine ob ?_
 try refine ⟨hq,?_⟩
 repeat refine ob ?_
 refine awX ?_;(first|(simp only [F83,seval,w9,cl9,bf,x9,s9,g9,r9,List.cons_append,List.nil_append];done)|(simp only [F83,seval,w9,cl9,bf,x9,s9,g9,r9,List.cons_append,List.nil_append];first|(simp [];done)))
theorem Mx:sB 1000000 (enc ((-1:Int):Rat)):=by
 have:=eH (show qB 1 ((-1:Int):Rat) from ⟨by decide,by decide⟩);exact ⟨Nat.le_trans this.1 (by decide),Nat.le_trans this.2 (by decide)⟩
theorem Mb:sB 1000000 (enc ((100000:Int):Rat)):=by
 have:=eH (show qB 3 ((100000:Int):Rat) from ⟨by decide,by decide⟩);exact ⟨Nat.le_trans this.1 (by decide),Nat.le_trans this.2 (by decide)⟩
theorem JI {rs:List GRet} {j:Nat} {x:GRet} (h:∀r∈rs,sB 1000000 r.amount) (hx:sB 1000000 x.amount):∀r∈rs.set j x,sB 1000000 r.amount:=fun r hr=>by
 rcases List.mem_or_eq_of_mem_set hr with hr|rfl
 ·exact h r hr
 exact hx
def F84:=And.intro zS (And.intro LY (And.intro nL (And.intro Lh (And.intro nM (And.intro LC (And.intro LD (And.intro LE (And.intro LX (And.intro nN (And.intro qO (And.intro mf (And.intro Jy (And.intro u9 (And.intro zD (zF)))))))))))))))
theorem F85:type_of%F84:=F84
theorem My (n:Nat) (cash:List Nat) (list:List N4) (pools debts:List N3) (l:List N4) (at9 wt:Nat) (hn:n<256) (hcs:nO (·<65536) cash) (hls:nO xK list) (hps:nO tS pools) (hds:nO tS debts) (hll:nO xK l) (hat9:at9<256) (hwt:wt<256):ch prog 4 [.one (.lit (.int .u8 n)),.one (.sh 1 cash.length (ar vB cash)),.one (.sh 4 list.length (ar cN4 list)),.one (.sh 3 pools.length (ar cN3 pools)),.one (.sh 3 debts.length (ar cN3 debts)),.one (.sh 4 l.length (ar cN4 l)),.one (.lit (.int .u8 at9)),.one (.lit (.int .u8 wt))] (one (.bool true)):=by
 have hn1:cash.length<=9223372036854775807:=Nat.le_trans hcs.1 (by decide);have hn2:list.length<=9223372036854775807:=Nat.le_trans hls.1 (by decide);have hn3:pools.length<=9223372036854775807:=Nat.le_trans hps.1 (by decide);have hn4:debts.length<=9223372036854775807:=Nat.le_trans hds.1 (by decide);have hnl:l.length<=9223372036854775807:=Nat.le_trans hll.1 (by decide);refine bF func4 rfl (by decide) (N:=112) rfl (by simp) (R:=[.tmp 16]) rfl fun en k0=>?_
 refine awN ?_;simp only [F85,seval,au];repeat refine ob ?_
 have hG:=LI n cash list pools debts hn hcs.2 hls.2 hps.2 hds.2 hn1 hn2 hn3 hn4;have hx:=L8 n cash list pools debts;have hok:=(KO n cash list pools debts).1;generalize vz n cash list pools debts=G at *
 have hx8:=hx.1;refine awN ?_;simp only [F85,seval,au,ab Kc,ab J1,ab Kt];repeat refine ob ?_
 refine ⟨_,hG,(by first|rfl|simp [bu,aI,av,az,A1.cells,au,ab ak,ab ai,ab p9]),?_⟩;try simp only [aq,F85,seval,au,ab Kc,ab J1,ab Kt]
 repeat refine ob ?_
 refine awR [32] [0,0,0,0] ?_;simp only [F85,seval,au,ab ak,ab ai,ab J1];repeat refine ob ?_
 refine ⟨_,K5 G G.ests.length rfl (by omega) l hnl hll.2 _ _ (fun y B hB=>?_),?_⟩
 ·simp only [aj] at hB;repeat (split at hB;· omega)
  cases hB
 rintro res H' nx' ⟨s9,rs,hr4,hrB,rfl,rfl⟩;simp only [F85,seval,(id SD)];repeat refine ob ?_
 refine Gc (M:=fun st=>∃l2 nxB nx,(l2.length<=4)/\(∀r∈l2,sB 1000000 r.amount)/\st=⟨mkT [(17,.val (.one (.ptr 17 nxB 0))),(18,.val (.one (.sh 6 l2.length (ar di l2))))],mkH [(17,⟨nxB,28,2,1,au G⟩)],nx,0⟩) ?_ ?_
 ·by_cases hl:(0:Int)<(rs.length:Int)
  ·refine awN ?_;simp only [F85,seval,au,hl];repeat refine ob ?_
   refine awT ?_;obtain ⟨j,hj⟩:∃j,j=at9%rs.length:=⟨_,rfl⟩;have w1:((at9:Nat):Int).tmod (rs.length:Int)=((j:Nat):Int):=by rw [hj];exact Br at9 rs.length
   have hjl:j<rs.length:=by rw [hj];exact Nat.mod_lt _ (by omega)
   obtain ⟨r0,hr0⟩:∃r,rs[j]=r:=⟨_,rfl⟩;have hfl9:=aS CX rs;refine awN ?_;simp only [F85,seval,au,hl,w1,hfl9];repeat refine ob ?_
   have w2:((wt:Nat):Int).tmod 12=((wt%12:Nat):Int):=Br wt 12;have w3:IntKind.u8.wrap ((wt%12:Nat):Int)=((wt%12:Nat):Int):=by have:wt%12<12:=Nat.mod_lt _ (by decide);simp [IntKind.wrap,IntKind.bits,IntKind.signed];omega
   obtain ⟨wh,hwh⟩:∃wh,wh=wt%12:=⟨_,rfl⟩;rw [←hwh] at w2 w3;refine awN ?_;simp only [F85,seval,au,hl,w2,w3];repeat refine ob ?_
   by_cases w0:((wh:Nat):Int)=0
   ·refine awN ?_;simp only [F85,seval,au,hl,w0];repeat refine ob ?_
    refine awT ?_;have hs9:=iD CX rs j 0 [.lit (.int .i64 (G.ests.length:Int))] ⟨(G.ests.length:Int),r0.holder,r0.rank,r0.amount⟩ hjl (by simp [cS]) (by rw [hr0];simp [di,spl,cS]);try simp only [Nat.add_zero,cS] at hs9
    refine awN ?_;simp only [F85,seval,au,hl,w0,hs9,hfl9];repeat refine ob ?_
    intro zc zQ hM;refine dL (t:=18) (by rfl) (by rfl) (by decide) (by rfl) ?_;simp only [F85,seval];obtain ⟨l2,hl2⟩:∃l2:List GRet,l2=(rs.set j ⟨(G.ests.length:Int),r0.holder,r0.rank,r0.amount⟩):=⟨_,rfl⟩;have hb2:∀r∈l2,sB 1000000 r.amount:=by rw [hl2];exact JI hrB (by have h:=hrB _ (List.getElem_mem hjl);rw [hr0] at h;exact h)
    have hl3:rs.length=l2.length:=by rw [hl2,List.length_set]
    rw [←hl2];try rw [hl3]
    refine be (aH [17,18] [17]) (hM _ ⟨l2,?_,?_,(hl3▸hr4),hb2,?cs8⟩);case cs8=>(simp only [F85,seval];rfl)
   refine awN ?_;simp only [F85,seval,au,hl,w0];repeat refine ob ?_
   refine awF ?_;by_cases w1:((wh:Nat):Int)=1
   ·refine awN ?_;simp only [F85,seval,au,hl,w0,w1];repeat refine ob ?_
    refine awT ?_;have hat:=aO CX rs j hjl;rw [hr0] at hat;have hge:(ar di rs)[j*6]? =some (.lit (.int .i64 r0.est)):=by
     have h:=congrArg (fun m=>m[0]?) hat;simpa [di] using h
    have hs9:=iD CX rs j 1 [.lit (.int .i64 r0.est)] ⟨r0.est,r0.est,r0.rank,r0.amount⟩ hjl (by simp [cS]) (by rw [hr0];simp [di,spl,cS]);try simp only [Nat.add_zero,cS] at hs9
    refine awN ?_;simp only [F85,seval,au,hl,w0,w1,hge,hs9,hfl9];repeat refine ob ?_
    intro zc zQ hM;refine dL (t:=18) (by rfl) (by rfl) (by decide) (by rfl) ?_;simp only [F85,seval];obtain ⟨l2,hl2⟩:∃l2:List GRet,l2=(rs.set j ⟨r0.est,r0.est,r0.rank,r0.amount⟩):=⟨_,rfl⟩;have hb2:∀r∈l2,sB 1000000 r.amount:=by rw [hl2];exact JI hrB (by have h:=hrB _ (List.getElem_mem hjl);rw [hr0] at h;exact h)
    have hl3:rs.length=l2.length:=by rw [hl2,List.length_set]
    rw [←hl2];try rw [hl3]
    refine be (aH [17,18] [17]) (hM _ ⟨l2,?_,?_,(hl3▸hr4),hb2,?cs12⟩);case cs12=>(simp only [F85,seval];rfl)
   refine awN ?_;simp only [F85,seval,au,hl,w0,w1];repeat refine ob ?_
   refine awF ?_;by_cases w2:((wh:Nat):Int)=2
   ·refine awN ?_;simp only [F85,seval,au,hl,w0,w1,w2];repeat refine ob ?_
    refine awT ?_;have hs9:=iD CX rs j 2 [.lit (.int .i64 1)] ⟨r0.est,r0.holder,1,r0.amount⟩ hjl (by simp [cS]) (by rw [hr0];simp [di,spl,cS]);try simp only [Nat.add_zero,cS] at hs9
    refine awN ?_;simp only [F85,seval,au,hl,w0,w1,w2,hs9,hfl9];repeat refine ob ?_
    intro zc zQ hM;refine dL (t:=18) (by rfl) (by rfl) (by decide) (by rfl) ?_;simp only [F85,seval];obtain ⟨l2,hl2⟩:∃l2:List GRet,l2=(rs.set j ⟨r0.est,r0.holder,1,r0.amount⟩):=⟨_,rfl⟩;have hb2:∀r∈l2,sB 1000000 r.amount:=by rw [hl2];exact JI hrB (by have h:=hrB _ (List.getElem_mem hjl);rw [hr0] at h;exact h)
    have hl3:rs.length=l2.length:=by rw [hl2,List.length_set]
    rw [←hl2];try rw [hl3]
    refine be (aH [17,18] [17]) (hM _ ⟨l2,?_,?_,(hl3▸hr4),hb2,?cs16⟩);case cs16=>(simp only [F85,seval];rfl)
   refine awN ?_;simp only [F85,seval,au,hl,w0,w1,w2];repeat refine ob ?_
   refine awF ?_;by_cases w3:((wh:Nat):Int)=3
   ·refine awN ?_;simp only [F85,seval,au,hl,w0,w1,w2,w3];repeat refine ob ?_
    refine awT ?_;have hs9:=iD CX rs j 3 (cS (enc ((-1:Int):Rat))) ⟨r0.est,r0.holder,r0.rank,enc ((-1:Int):Rat)⟩ hjl (by simp [cS]) (by rw [hr0];simp [di,spl,cS]);try simp only [Nat.add_zero,cS] at hs9
    refine awN ?_;simp only [F85,seval,au,hl,w0,w1,w2,w3,hs9,hfl9,cS];repeat refine ob ?_
    refine ⟨_,(fG (-1) (by decide) (by decide)),(by first|rfl|simp [bu,aI,av,az,A1.cells,au,ab ak,ab ai,ab p9]),?_⟩;try simp only [aq,F85,seval,au,hl,w0,w1,w2,w3,hs9,hfl9,cS]
    repeat refine ob ?_
    intro zc zQ hM;refine dL (t:=18) (by rfl) (by rfl) (by decide) (by rfl) ?_;simp only [F85,seval];obtain ⟨l2,hl2⟩:∃l2:List GRet,l2=(rs.set j ⟨r0.est,r0.holder,r0.rank,enc ((-1:Int):Rat)⟩):=⟨_,rfl⟩;have hb2:∀r∈l2,sB 1000000 r.amount:=by rw [hl2];exact JI hrB Mx
    have hl3:rs.length=l2.length:=by rw [hl2,List.length_set]
    rw [←hl2];try rw [hl3]
    refine be (aH [17,18] [17]) (hM _ ⟨l2,?_,?_,(hl3▸hr4),hb2,?cs20⟩);case cs20=>(simp only [F85,seval];rfl)
   refine awN ?_;simp only [F85,seval,au,hl,w0,w1,w2,w3];repeat refine ob ?_
   refine awF ?_;by_cases w4:((wh:Nat):Int)=4
   ·refine awN ?_;simp only [F85,seval,au,hl,w0,w1,w2,w3,w4];repeat refine ob ?_
    refine awT ?_;have hs9:=iD CX rs j 1 [.lit (.int .i64 (-2))] ⟨r0.est,-2,r0.rank,r0.amount⟩ hjl (by simp [cS]) (by rw [hr0];simp [di,spl,cS]);try simp only [Nat.add_zero,cS] at hs9
    refine awN ?_;simp only [F85,seval,au,hl,w0,w1,w2,w3,w4,hs9,hfl9];repeat refine ob ?_
    intro zc zQ hM;refine dL (t:=18) (by rfl) (by rfl) (by decide) (by rfl) ?_;simp only [F85,seval];obtain ⟨l2,hl2⟩:∃l2:List GRet,l2=(rs.set j ⟨r0.est,-2,r0.rank,r0.amount⟩):=⟨_,rfl⟩;have hb2:∀r∈l2,sB 1000000 r.amount:=by rw [hl2];exact JI hrB (by have h:=hrB _ (List.getElem_mem hjl);rw [hr0] at h;exact h)
    have hl3:rs.length=l2.length:=by rw [hl2,List.length_set]
    rw [←hl2];try rw [hl3]
    refine be (aH [17,18] [17]) (hM _ ⟨l2,?_,?_,(hl3▸hr4),hb2,?cs24⟩);case cs24=>(simp only [F85,seval];rfl)
   refine awN ?_;simp only [F85,seval,au,hl,w0,w1,w2,w3,w4];repeat refine ob ?_
   refine awF ?_;by_cases w5:((wh:Nat):Int)=5
   ·refine awN ?_;simp only [F85,seval,au,hl,w0,w1,w2,w3,w4,w5];repeat refine ob ?_
    refine awT ?_;have hs9:=iD CX rs j 2 [.lit (.int .i64 8)] ⟨r0.est,r0.holder,8,r0.amount⟩ hjl (by simp [cS]) (by rw [hr0];simp [di,spl,cS]);try simp only [Nat.add_zero,cS] at hs9
    refine awN ?_;simp only [F85,seval,au,hl,w0,w1,w2,w3,w4,w5,hs9,hfl9];repeat refine ob ?_
    intro zc zQ hM;refine dL (t:=18) (by rfl) (by rfl) (by decide) (by rfl) ?_;simp only [F85,seval];obtain ⟨l2,hl2⟩:∃l2:List GRet,l2=(rs.set j ⟨r0.est,r0.holder,8,r0.amount⟩):=⟨_,rfl⟩;have hb2:∀r∈l2,sB 1000000 r.amount:=by rw [hl2];exact JI hrB (by have h:=hrB _ (List.getElem_mem hjl);rw [hr0] at h;exact h)
    have hl3:rs.length=l2.length:=by rw [hl2,List.length_set]
    rw [←hl2];try rw [hl3]
    refine be (aH [17,18] [17]) (hM _ ⟨l2,?_,?_,(hl3▸hr4),hb2,?cs28⟩);case cs28=>(simp only [F85,seval];rfl)
   refine awN ?_;simp only [F85,seval,au,hl,w0,w1,w2,w3,w4,w5];repeat refine ob ?_
   refine awF ?_;by_cases w6:((wh:Nat):Int)=6
   ·refine awN ?_;simp only [F85,seval,au,hl,w0,w1,w2,w3,w4,w5,w6];repeat refine ob ?_
    refine awT ?_;have hs9:=iD CX rs j 3 (cS (enc ((100000:Int):Rat))) ⟨r0.est,r0.holder,r0.rank,enc ((100000:Int):Rat)⟩ hjl (by simp [cS]) (by rw [hr0];simp [di,spl,cS]);try simp only [Nat.add_zero,cS] at hs9
    refine awN ?_;simp only [F85,seval,au,hl,w0,w1,w2,w3,w4,w5,w6,hs9,hfl9,cS];repeat refine ob ?_
    refine ⟨_,(fG 100000 (by decide) (by decide)),(by first|rfl|simp [bu,aI,av,az,A1.cells,au,ab ak,ab ai,ab p9]),?_⟩;try simp only [aq,F85,seval,au,hl,w0,w1,w2,w3,w4,w5,w6,hs9,hfl9,cS]
    repeat refine ob ?_
    intro zc zQ hM;refine dL (t:=18) (by rfl) (by rfl) (by decide) (by rfl) ?_;simp only [F85,seval];obtain ⟨l2,hl2⟩:∃l2:List GRet,l2=(rs.set j ⟨r0.est,r0.holder,r0.rank,enc ((100000:Int):Rat)⟩):=⟨_,rfl⟩;have hb2:∀r∈l2,sB 1000000 r.amount:=by rw [hl2];exact JI hrB Mb
    have hl3:rs.length=l2.length:=by rw [hl2,List.length_set]
    rw [←hl2];try rw [hl3]
    refine be (aH [17,18] [17]) (hM _ ⟨l2,?_,?_,(hl3▸hr4),hb2,?cs32⟩);case cs32=>(simp only [F85,seval];rfl)
   refine awN ?_;simp only [F85,seval,au,hl,w0,w1,w2,w3,w4,w5,w6];repeat refine ob ?_
   refine awF ?_;refine awK ?_;simp only [F85,seval];intro zc zQ hM;refine dL (t:=18) (by rfl) (by rfl) (by decide) (by rfl) ?_;simp only [F85,seval];obtain ⟨l2,hl2⟩:∃l2:List GRet,l2=rs:=⟨_,rfl⟩;have hb2:∀r∈l2,sB 1000000 r.amount:=by rw [hl2];exact hrB
   have hl3:rs.length=l2.length:=by rw [hl2]
   rw [←hl2];try rw [hl3]
   refine be (aH [17,18] [17]) (hM _ ⟨l2,?_,?_,(hl3▸hr4),hb2,?cs34⟩);case cs34=>(simp only [F85,seval];rfl)
  refine awN ?_;simp only [F85,seval,au,hl];repeat refine ob ?_
  refine awF ?_;refine awK ?_;simp only [F85,seval];intro zc zQ hM;refine dL (t:=18) (by rfl) (by rfl) (by decide) (by rfl) ?_;simp only [F85,seval];obtain ⟨l2,hl2⟩:∃l2:List GRet,l2=rs:=⟨_,rfl⟩;have hb2:∀r∈l2,sB 1000000 r.amount:=by rw [hl2];exact hrB
  have hl3:rs.length=l2.length:=by rw [hl2]
  rw [←hl2];try rw [hl3]
  refine be (aH [17,18] [17]) (hM _ ⟨l2,?_,?_,(hl3▸hr4),hb2,?cs36⟩);case cs36=>(simp only [F85,seval];rfl)
 rintro st ⟨l2,nxB,nx,hl24,hlB,rfl⟩;obtain ⟨hv1,hv2,hv3,hv4,hv5⟩:=Mw hx;have hX:=Ls G l2 (LS hx) (Mv hx) hv1 hlB (by omega);have hY:=K4 G l2 (LS hx) hok hv1 hlB (by omega);rw [←ez] at hY;have hZ:=Ma (nW G) G l2 (by omega) hv2 hv4 hv5;generalize rvS (nW G) G l2=Z at *
 have hS:=J8 Z.1 hZ;simp only [au] at hX hY hS;refine awN ?_;simp only [F85,seval,au,ab ak,ab ai,ab p9];repeat refine ob ?_
 refine ⟨_,hX,(by first|rfl|simp [bu,aI,av,az,A1.cells,au,ab ak,ab ai,ab p9]),?_⟩;try simp only [aq,F85,seval,au,ab ak,ab ai,ab p9]
 repeat refine ob ?_
 refine awN ?_;simp only [F85,seval,au,ab ak,ab ai,ab p9];repeat refine ob ?_
 refine ⟨_,hY,(by first|rfl|simp [bu,aI,av,az,A1.cells,au,ab ak,ab ai,ab p9]),?_⟩;try simp only [aq,F85,seval,au,ab ak,ab ai,ab p9]
 repeat refine ob ?_
 refine awR [] [0,0,207,207,207,0,0,217,217,217,0,0] ?_;simp only [F85,seval,au,ab ak,ab ai,BEq.rfl,decide_true];repeat refine ob ?_
 refine ⟨_,vE,(by first|rfl|simp [bu,aI,av,az,A1.cells,au,ab ak,ab ai,ab p9]),?_⟩;try simp only [aq,F85,seval,au,ab ak,ab ai,BEq.rfl,decide_true]
 repeat refine ob ?_
 refine ⟨_,hS,(by first|rfl|simp [bu,aI,av,az,A1.cells,au,ab ak,ab ai,ab p9]),?_⟩;try simp only [aq,F85,seval,au,ab ak,ab ai,BEq.rfl,decide_true]
 repeat refine ob ?_
 refine awX ?_;(first|(simp only [F85,seval,au];done)|(simp only [F85,seval,au];first|(simp [];done)))
theorem LA (v0 v1 v2 v3 v4 v5 v6 v7:Value) (n:Nat) (cash:List Nat) (list:List N4) (pools debts:List N3) (l:List N4) (at9 wt:Nat) (W:World) (o0:rC (fun n:Nat=>[.lit (.int .u8 n)]) (·<256) W (LT W.heap.size) [v0] n) (o1:rC (cSl 1 vB) (nO (·<65536)) W (LT W.heap.size) [v1] cash) (o2:rC (cSl 4 cN4) (nO xK) W (LT W.heap.size) [v2] list) (o3:rC (cSl 3 cN3) (nO tS) W (LT W.heap.size) [v3] pools) (o4:rC (cSl 3 cN3) (nO tS) W (LT W.heap.size) [v4] debts) (o5:rC (cSl 4 cN4) (nO xK) W (LT W.heap.size) [v5] l) (o6:rC (fun n:Nat=>[.lit (.int .u8 n)]) (·<256) W (LT W.heap.size) [v6] at9) (o7:rC (fun n:Nat=>[.lit (.int .u8 n)]) (·<256) W (LT W.heap.size) [v7] wt):
  Calls prog 4 #[v0,v1,v2,v3,v4,v5,v6,v7] W fun e w'=>e= .returned (.bool true)/\Below W.heap.size W w':=by
 obtain ⟨h0,k0⟩:=fH o0 rfl;obtain ⟨h1,k1⟩:=fH o1 rfl;obtain ⟨h2,k2⟩:=fH o2 rfl;obtain ⟨h3,k3⟩:=fH o3 rfl;obtain ⟨h4,k4⟩:=fH o4 rfl;obtain ⟨h5,k5⟩:=fH o5 rfl;obtain ⟨h6,k6⟩:=fH o6 rfl;obtain ⟨h7,k7⟩:=fH o7 rfl;exact tR (vs:=[v0,v1,v2,v3,v4,v5,v6,v7]) (My n cash list pools debts l at9 wt k0 k1 k2 k3 k4 k5 k6 k7) ⟨h0,h1,h2,h3,h4,h5,h6,h7,trivial⟩
end Go.Proofs.YtcgpghifhehlhaaGreatDoor
