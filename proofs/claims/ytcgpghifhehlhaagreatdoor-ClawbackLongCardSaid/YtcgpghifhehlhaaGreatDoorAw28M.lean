/- The example of the chapter on payments back: it answers true; walked by the abstract machine. -/
import Derived.Test.YtcgpghifhehlhaaGreatDoorAw28sM
import Derived.Test.YtcgpghifhehlhaaGreatDoorLawM
import Derived.Test.YtcgpghifhehlhaaGreatDoorAbGM
import Derived.Test.YtcgpghifhehlhaaGreatDoorAbUM
import Derived.Test.YtcgpghifhehlhaaGreatDoorSg2M
import Derived.Test.YtcgpghifhehlhaaGreatDoorCc2M
set_option linter.unusedVariables false
set_option maxHeartbeats 4000000
set_option maxRecDepth 100000
set_option linter.unusedSimpArgs false
set_option linter.defProp false
namespace Go.Proofs.YtcgpghifhehlhaaGreatDoor
open Go Go.RowKit Go.Proofs.Tryz
theorem Ej (n:Nat) (h:n<=1000) (he:cS (enc (((n:Nat):Int):Rat))=w9 n):ch prog 12 [.one (.lit (.int .i64 (n:Int)))] (.val (.agg (w9 n))):=by
 have h1:=fG (n:Int) (by omega) (by omega);rw [he] at h1;exact h1
theorem Cu (n:Nat):oc [.bool false,.string (Jn n),.string cc] [.bool false,.string (Jn n),.string cc]=true:=by simp [oc,eqV]
def F70:=And.intro zS (And.intro An (And.intro zH (And.intro zI (And.intro pj (And.intro u6 (And.intro Ao (And.intro zF (And.intro yI (And.intro zJ (And.intro Ap (And.intro xh (And.intro jS (And.intro Aq (And.intro Al (And.intro Ab (And.intro Am (And.intro LB (And.intro po (And.intro z7 (And.intro xj (And.intro yH (Mz))))))))))))))))))))))
theorem F71:type_of%F70:=F70
theorem vE:ch prog 19 [] (one (.bool true)):=by
 have hW10:=Ej 10 (by decide) (by kernel_rfl);have hW20:=Ej 20 (by decide) (by kernel_rfl);have hW30:=Ej 30 (by decide) (by kernel_rfl);have hRv:=Eh;have hSo:=Ei;simp only [w9,cl9,bf,x9,s9,g9,r9,List.cons_append,List.nil_append] at hW10 hW20 hW30 hRv hSo;refine bF func19 rfl (by decide) (N:=68) rfl (by simp) (R:=[.tmp 0]) rfl fun en k0=>?_
 refine awN ?_;simp only [F71,seval,w9,cl9,bf,x9,s9,g9,r9,List.cons_append,List.nil_append];repeat refine ob ?_
 refine awN ?_;simp only [F71,seval,w9,cl9,bf,x9,s9,g9,r9,List.cons_append,List.nil_append];repeat refine ob ?_
 refine ⟨_,hW10,rfl,?_⟩;try simp only [aq,F71,seval,w9,cl9,bf,x9,s9,g9,r9,List.cons_append,List.nil_append]
 repeat refine ob ?_
 refine ⟨_,hW30,rfl,?_⟩;try simp only [aq,F71,seval,w9,cl9,bf,x9,s9,g9,r9,List.cons_append,List.nil_append]
 repeat refine ob ?_
 refine ao 9 11 3 (by rfl) (by rfl) (by rfl) (by decide) (by show (5:Nat)≠0;decide) (by show (5:Nat)≠0;decide) rfl ?_;simp only [F71,seval];refine ao 11 1 0 (by rfl) (by rfl) (by rfl) (by decide) (by show (5:Nat)≠0;decide) (by show (2:Nat)≠0;decide) rfl ?_;simp only [F71,seval];repeat' first|apply awS|apply awB
 refine lI [18] (by kernel_rfl) (.cons 0 true (.two 1 8 (.cons 2 true (.two 3 8 (.two 4 8 (.cons 5 true (.cons 6 true (.cons 7 true (.cons 8 false (.cons 9 false (.cons 10 true .nil)))))) (.cons 4 false (.cons 5 true (.cons 6 true (.cons 7 true (.cons 9 false (.cons 10 true .nil))))))) (.cons 3 false (.cons 4 false (.cons 5 true (.cons 6 true (.cons 7 true (.cons 9 false (.cons 10 true .nil))))))))) (.cons 1 false (.cons 2 true (.cons 3 false (.cons 4 false (.cons 5 true (.cons 6 true (.cons 7 true (.cons 9 false (.cons 10 true .nil))))))))))) (by kernel_rfl) (gs:=[none,none,none,none,none,none,none,none,none,none,none]) (by kernel_rfl) (by simp only [zT,seval];rfl) (by decide) ?_;simp only [F71,seval,w9,cl9,bf,x9,s9,g9,r9,List.cons_append,List.nil_append,(id SD),(id SD)];repeat refine ob ?_
 refine ⟨?_,?_⟩
 ·repeat refine ob ?_
  refine ⟨_,hW30,rfl,?_⟩;try simp only [aq,F71,seval,w9,cl9,bf,x9,s9,g9,r9,List.cons_append,List.nil_append,(id SD)]
  repeat refine ob ?_
  refine ⟨?_,?_⟩
  ·repeat refine ob ?_
   refine ⟨?_,?_⟩
   ·repeat refine ob ?_
    refine ⟨_,Jv (nm:=17) hRv (by simp [bu,aI,av,az,A1.cells]) (by simp [aI,av,az,A1.cells]) (fun e σ w vs hW hx hd=>?_),?_⟩
    ·obtain ⟨v1,vs1,rfl,d1,hd1⟩:=cC hd;obtain ⟨v2,vs2,rfl,d2,hd2⟩:=cC hd1;exact ⟨n8 hx d1,qx hW d2 rfl rfl (by show (6:Nat)≠0;decide),(by cases vs2 with|nil=>exact trivial|cons v vs=>exact hd2.elim)⟩
    rintro res H' nx' ⟨rfl,rfl,rfl⟩;simp only [F71,seval,(id SD)];repeat refine ob ?_
    refine awN ?_;simp only [F71,seval,w9,cl9,bf,x9,s9,g9,r9,List.cons_append,List.nil_append];repeat refine ob ?_
    refine ⟨_,hSo,rfl,?_⟩;try simp only [aq,F71,seval,w9,cl9,bf,x9,s9,g9,r9,List.cons_append,List.nil_append]
    repeat refine ob ?_
    have hq:=qg ⟨false,Jn 20,cc⟩ ⟨false,Jn 20,cc⟩;have hqv:=Cu 20;refine awD (scT 0 29 (scq [58] (scT 30 9 (scq [78,81,83,85] .nil)))) [0,0,0,59,59,0,0,0,0,71,71,71,71,0,0,83,83,83,83,83,83,0,0,99,99,99,99,99,99,99,99,0,0,119,119,119,119,119,119,119,119,0,0] ?_;simp only [F71,seval,w9,cl9,bf,x9,s9,g9,r9,List.cons_append,List.nil_append,hqv,BEq.rfl,decide_true];repeat refine ob ?_
    refine ⟨_,hW20,rfl,?_⟩;try simp only [aq,F71,seval,w9,cl9,bf,x9,s9,g9,r9,List.cons_append,List.nil_append,hqv,BEq.rfl,decide_true]
    repeat refine ob ?_
    try refine ⟨hq,?_⟩
    repeat refine ob ?_
    refine ⟨_,hW20,rfl,?_⟩;try simp only [aq,F71,seval,w9,cl9,bf,x9,s9,g9,r9,List.cons_append,List.nil_append,hqv,BEq.rfl,decide_true]
    repeat refine ob ?_
    try refine ⟨hq,?_⟩
    repeat refine ob ?_
    refine awX ?_;(first|(simp only [F71,seval,w9,cl9,bf,x9,s9,g9,r9,List.cons_append,List.nil_append];done)|(simp only [F71,seval,w9,cl9,bf,x9,s9,g9,r9,List.cons_append,List.nil_append];first|(simp [];done)))
   repeat refine ob ?_
   refine ⟨_,Jv (nm:=17) hRv (by simp [bu,aI,av,az,A1.cells]) (by simp [aI,av,az,A1.cells]) (fun e σ w vs hW hx hd=>?_),?_⟩
   ·obtain ⟨v1,vs1,rfl,d1,hd1⟩:=cC hd;obtain ⟨v2,vs2,rfl,d2,hd2⟩:=cC hd1;exact ⟨n8 hx d1,qx hW d2 rfl rfl (by show (6:Nat)≠0;decide),(by cases vs2 with|nil=>exact trivial|cons v vs=>exact hd2.elim)⟩
   rintro res H' nx' ⟨rfl,rfl,rfl⟩;simp only [F71,seval,(id SD)];repeat refine ob ?_
   refine awN ?_;simp only [F71,seval,w9,cl9,bf,x9,s9,g9,r9,List.cons_append,List.nil_append];repeat refine ob ?_
   refine ⟨_,hSo,rfl,?_⟩;try simp only [aq,F71,seval,w9,cl9,bf,x9,s9,g9,r9,List.cons_append,List.nil_append]
   repeat refine ob ?_
   have hq:=qg ⟨false,Jn 20,cc⟩ ⟨false,Jn 20,cc⟩;have hqv:=Cu 20;refine awD (scT 0 29 (scq [58] (scT 30 9 (scq [78,81,83,85] .nil)))) [0,0,0,59,59,0,0,0,0,71,71,71,71,0,0,83,83,83,83,83,83,0,0,99,99,99,99,99,99,99,99,0,0,119,119,119,119,119,119,119,119,0,0] ?_;simp only [F71,seval,w9,cl9,bf,x9,s9,g9,r9,List.cons_append,List.nil_append,hqv,BEq.rfl,decide_true];repeat refine ob ?_
   refine ⟨_,hW20,rfl,?_⟩;try simp only [aq,F71,seval,w9,cl9,bf,x9,s9,g9,r9,List.cons_append,List.nil_append,hqv,BEq.rfl,decide_true]
   repeat refine ob ?_
   try refine ⟨hq,?_⟩
   repeat refine ob ?_
   refine ⟨_,hW20,rfl,?_⟩;try simp only [aq,F71,seval,w9,cl9,bf,x9,s9,g9,r9,List.cons_append,List.nil_append,hqv,BEq.rfl,decide_true]
   repeat refine ob ?_
   try refine ⟨hq,?_⟩
   repeat refine ob ?_
   refine awX ?_;(first|(simp only [F71,seval,w9,cl9,bf,x9,s9,g9,r9,List.cons_append,List.nil_append];done)|(simp only [F71,seval,w9,cl9,bf,x9,s9,g9,r9,List.cons_append,List.nil_append];first|(simp [];done)))
  repeat refine ob ?_
  refine ⟨_,Jv (nm:=17) hRv (by simp [bu,aI,av,az,A1.cells]) (by simp [aI,av,az,A1.cells]) (fun e σ w vs hW hx hd=>?_),?_⟩
  ·obtain ⟨v1,vs1,rfl,d1,hd1⟩:=cC hd;obtain ⟨v2,vs2,rfl,d2,hd2⟩:=cC hd1;exact ⟨n8 hx d1,qx hW d2 rfl rfl (by show (6:Nat)≠0;decide),(by cases vs2 with|nil=>exact trivial|cons v vs=>exact hd2.elim)⟩
  rintro res H' nx' ⟨rfl,rfl,rfl⟩;simp only [F71,seval,(id SD)];repeat refine ob ?_
  refine awN ?_;simp only [F71,seval,w9,cl9,bf,x9,s9,g9,r9,List.cons_append,List.nil_append];repeat refine ob ?_
  refine ⟨_,hSo,rfl,?_⟩;try simp only [aq,F71,seval,w9,cl9,bf,x9,s9,g9,r9,List.cons_append,List.nil_append]
  repeat refine ob ?_
  have hq:=qg ⟨false,Jn 20,cc⟩ ⟨false,Jn 20,cc⟩;have hqv:=Cu 20;refine awD (scT 0 29 (scq [58] (scT 30 9 (scq [78,81,83,85] .nil)))) [0,0,0,59,59,0,0,0,0,71,71,71,71,0,0,83,83,83,83,83,83,0,0,99,99,99,99,99,99,99,99,0,0,119,119,119,119,119,119,119,119,0,0] ?_;simp only [F71,seval,w9,cl9,bf,x9,s9,g9,r9,List.cons_append,List.nil_append,hqv,BEq.rfl,decide_true];repeat refine ob ?_
  refine ⟨_,hW20,rfl,?_⟩;try simp only [aq,F71,seval,w9,cl9,bf,x9,s9,g9,r9,List.cons_append,List.nil_append,hqv,BEq.rfl,decide_true]
  repeat refine ob ?_
  try refine ⟨hq,?_⟩
  repeat refine ob ?_
  refine ⟨_,hW20,rfl,?_⟩;try simp only [aq,F71,seval,w9,cl9,bf,x9,s9,g9,r9,List.cons_append,List.nil_append,hqv,BEq.rfl,decide_true]
  repeat refine ob ?_
  try refine ⟨hq,?_⟩
  repeat refine ob ?_
  refine awX ?_;(first|(simp only [F71,seval,w9,cl9,bf,x9,s9,g9,r9,List.cons_append,List.nil_append];done)|(simp only [F71,seval,w9,cl9,bf,x9,s9,g9,r9,List.cons_append,List.nil_append];first|(simp [];done)))
 repeat refine ob ?_
 refine ⟨_,hW30,rfl,?_⟩;try simp only [aq,F71,seval,w9,cl9,bf,x9,s9,g9,r9,List.cons_append,List.nil_append,(id SD)]
 repeat refine ob ?_
 refine ⟨_,Jv (nm:=17) hRv (by simp [bu,aI,av,az,A1.cells]) (by simp [aI,av,az,A1.cells]) (fun e σ w vs hW hx hd=>?_),?_⟩
 ·obtain ⟨v1,vs1,rfl,d1,hd1⟩:=cC hd;obtain ⟨v2,vs2,rfl,d2,hd2⟩:=cC hd1;exact ⟨n8 hx d1,qx hW d2 rfl rfl (by show (6:Nat)≠0;decide),(by cases vs2 with|nil=>exact trivial|cons v vs=>exact hd2.elim)⟩
 rintro res H' nx' ⟨rfl,rfl,rfl⟩;simp only [F71,seval,(id SD)];repeat refine ob ?_
 refine awN ?_;simp only [F71,seval,w9,cl9,bf,x9,s9,g9,r9,List.cons_append,List.nil_append];repeat refine ob ?_
 refine ⟨_,hSo,rfl,?_⟩;try simp only [aq,F71,seval,w9,cl9,bf,x9,s9,g9,r9,List.cons_append,List.nil_append]
 repeat refine ob ?_
 have hq:=qg ⟨false,Jn 20,cc⟩ ⟨false,Jn 20,cc⟩;have hqv:=Cu 20;refine awD (scT 0 29 (scq [58] (scT 30 9 (scq [78,81,83,85] .nil)))) [0,0,0,59,59,0,0,0,0,71,71,71,71,0,0,83,83,83,83,83,83,0,0,99,99,99,99,99,99,99,99,0,0,119,119,119,119,119,119,119,119,0,0] ?_;simp only [F71,seval,w9,cl9,bf,x9,s9,g9,r9,List.cons_append,List.nil_append,hqv,BEq.rfl,decide_true];repeat refine ob ?_
 refine ⟨_,hW20,rfl,?_⟩;try simp only [aq,F71,seval,w9,cl9,bf,x9,s9,g9,r9,List.cons_append,List.nil_append,hqv,BEq.rfl,decide_true]
 repeat refine ob ?_
 try refine ⟨hq,?_⟩
 repeat refine ob ?_
 refine ⟨_,hW20,rfl,?_⟩;try simp only [aq,F71,seval,w9,cl9,bf,x9,s9,g9,r9,List.cons_append,List.nil_append,hqv,BEq.rfl,decide_true]
 repeat refine ob ?_
 try refine ⟨hq,?_⟩
 repeat refine ob ?_
 refine awX ?_;(first|(simp only [F71,seval,w9,cl9,bf,x9,s9,g9,r9,List.cons_append,List.nil_append];done)|(simp only [F71,seval,w9,cl9,bf,x9,s9,g9,r9,List.cons_append,List.nil_append];first|(simp [];done)))
def cK (k:Nat):List GClaim:=List.replicate k ⟨-1,2,gZ⟩
theorem d7 (k:Nat):(cK k).length=k:=by simp [cK]
theorem o6 (k:Nat):ar aA (cK k)++[.lit (.int .i64 (-1)),.lit (.int .i64 2),.lit (.bool false),.lit (.string cc),.lit (.string cc)]=ar aA (cK (k+1)):=by
 unfold cK;rw [List.replicate_succ',aV];simp [aY,ej,aA,gZ,cc]
def gkL (k:Nat):GGrp:=⟨[⟨gZ,cK k,[]⟩],[]⟩
theorem f4 (m:Nat):sB m gZ:=⟨Nat.zero_le _,Nat.zero_le _⟩
theorem l6 (k:Nat) (h:k<=24):cqG (gkL k):=by
 refine ⟨by simp [gkL],fun e he=>?_,by simp [gkL],by simp [gkL]⟩;obtain rfl:=List.mem_singleton.1 he;exact ⟨f4 _,by rw [show (⟨gZ,cK k,[]⟩:GEst).claims=cK k from rfl,d7];omega,fun c hc=>by obtain rfl:=List.eq_of_mem_replicate hc;exact f4 _,by simp,by simp⟩
theorem l7 (k:Nat) (h:k<=24):b5 (gkL k):=by
 refine ⟨fun e he=>?_,by simp [gkL],by simp [gkL]⟩;obtain rfl:=List.mem_singleton.1 he;exact ⟨⟨f4 _,fun c hc=>by obtain rfl:=List.eq_of_mem_replicate hc;exact f4 _,by rw [show (⟨gZ,cK k,[]⟩:GEst).claims=cK k from rfl,d7];omega,by simp⟩,by simp⟩
theorem p6 (k:Nat) (h:k<=24):(∀e∈(gkL k).ests,rvB 1000000 900000 e)/\(∀e∈(gkL k).ests,sgX 900000 e):=by
 constructor<;>intro e he<;>obtain rfl:=List.mem_singleton.1 he
 ·exact ⟨f4 _,by rw [show (⟨gZ,cK k,[]⟩:GEst).claims=cK k from rfl,d7];omega⟩
 exact ⟨by rw [show (⟨gZ,cK k,[]⟩:GEst).claims=cK k from rfl,d7];omega,by simp,by simp⟩
theorem o7 (n j:Nat) (hn:n<65536) (hj:j<=16):IntKind.u16.wrap ((BitVec.ofInt IntKind.u16.bits ((n:Int).fdiv (2^min j IntKind.u16.bits))&&&BitVec.ofInt IntKind.u16.bits 1).toNat:Int)=((n/2^j%2:Nat):Int):=by
 have h1:(BitVec.ofInt 16 ((n:Int).fdiv (2^min j 16))&&&BitVec.ofInt 16 1).toNat=n/2^j%2:=by
  rw [Nat.min_eq_left hj];have h1:(n:Int).fdiv (2^j)=((n/2^j:Nat):Int):=by
   have:(2:Int)^j=((2^j:Nat):Int):=by norm_cast
   rw [this,Int.fdiv_eq_ediv_of_nonneg _ (Int.natCast_nonneg _)];norm_cast
  have h2:n/2^j<65536:=Nat.lt_of_le_of_lt (Nat.div_le_self _ _) hn;rw [h1,BitVec.ofInt_natCast,BitVec.toNat_and,BitVec.toNat_ofNat,Nat.mod_eq_of_lt (a:=n/2^j) (by omega)];exact Nat.and_two_pow_sub_one_eq_mod (n:=1) _
 have h3:IntKind.u16.bits=16:=rfl;rw [h3,h1];have:n/2^j%2<2:=Nat.mod_lt _ (by decide);simp [IntKind.wrap,IntKind.bits,IntKind.signed];omega
theorem p5 (n:Nat) (h:n<1000):IntKind.u64.wrap (n:Int)=(n:Int):=by simp [IntKind.wrap,IntKind.bits,IntKind.signed];omega
def F72:=And.intro zS (And.intro KF (And.intro pj (And.intro u6 (And.intro zF (And.intro pk (And.intro tv (And.intro zD (And.intro tx (And.intro tz (And.intro xh (And.intro zG (And.intro xd (And.intro Al (And.intro Ab (And.intro Am (And.intro LB (And.intro tf4 (And.intro MA (And.intro MB (And.intro po (And.intro z7 (And.intro xj (yH)))))))))))))))))))))))
theorem F73:type_of%F72:=F72
theorem p7 (ca re no:Nat) (hca:ca<256) (hre:re<256) (hno:no<65536):ch prog 5 [.one (.lit (.int .u8 ca)),.one (.lit (.int .u8 re)),.one (.lit (.int .u16 no))] (one (.bool true)):=by
 have w1:((ca:Nat):Int).tmod 25=((ca%25:Nat):Int):=Br ca 25;have w2:((re:Nat):Int).tmod 70=((re%70:Nat):Int):=Br re 70;have hM9:ca%25<25:=Nat.mod_lt _ (by decide);have hR9:re%70<70:=Nat.mod_lt _ (by decide);generalize ca%25=M9 at *
 generalize re%70=R9 at *
 refine bF func5 rfl (by decide) (N:=81) rfl (by simp) (R:=[.tmp 6]) rfl fun en k0=>?_
 refine awN ?_;simp only [F73,seval];repeat refine ob ?_
 refine awN ?_;simp only [F73,seval];repeat refine ob ?_
 refine awN ?_;simp only [F73,seval];repeat refine ob ?_
 refine dE 17 3 35 _ 38 5 (by decide) (by rfl) (by decide) (by simp) (by rfl) ?_;simp only [F73,seval];refine aQ [0,1,2,7,8] [7,17,35] ?_;try simp only [aq,F73,seval]
 repeat' first|apply awS|apply awB
 refine aB (fun n st=>∃k t7 s17 s nx,k<=M9/\n=M9-k/\st=⟨mkT [(0,one (.int .u8 ca)),(1,one (.int .u8 re)),(2,one (.int .u16 no)),(7,.val (.one (.ptr 7 t7 0))),(8,one (.int .i64 k))],mkH [(7,⟨t7,28,2,1,[.own 17 s17 1 5,.lit (.slice none 0 0)]⟩),(17,⟨s17,36,5,1,[.lit (.bool false),.lit (.string cc),.lit (.string cc),.own 35 s k 5,.lit (.slice none 0 0)]⟩),(35,⟨s,38,5,k,ar aA (cK k)⟩)],nx,0⟩) (M9) ⟨0,_,_,_,_,by omega,by omega,by first|rfl|(simp only [F73,seval];rfl)⟩ ?_;rintro n0 st ⟨k,t7,s17,s,nx0,hk,rfl,rfl⟩;by_cases hi0:(k:Int)<(M9:Int)
 ·refine awN ?_;simp only [F73,seval,hi0,w1];repeat refine ob ?_
  refine awT ?_;refine awK ?_;simp only [F73,seval];have hsn:=o6 k;refine awD (scq [1] (scT 2 6 (.two 1 8 (scq [16,18,21,23,24] .nil) (.two 1 9 (scq [18,21,23,24] .nil) (scq [3,21,23,24] .nil))))) [0,0,0,0,0,0,0,0,0,0,0,0,0] ?_;simp only [F73,seval,hi0];repeat refine ob ?_
  refine ⟨?_,?_⟩
  ·repeat refine ob ?_
   refine awN ?_;simp only [F73,seval,hi0];repeat refine ob ?_
   repeat refine ob ?_
   refine ⟨_,aH [0,1,2,7,8] [7,17,35],M9-(k+1),by omega,k+1,?sa7,?sb7,?sc7,?na7,by omega,rfl,?st7⟩;case st7=>(simp only [F73,seval,hsn];first|rfl|(simp;done))
  repeat refine ob ?_
  refine ⟨?_,?_⟩
  ·repeat refine ob ?_
   refine awN ?_;simp only [F73,seval,hi0];repeat refine ob ?_
   repeat refine ob ?_
   refine ⟨_,aH [0,1,2,7,8] [7,17,35],M9-(k+1),by omega,k+1,?sa9,?sb9,?sc9,?na9,by omega,rfl,?st9⟩;case st9=>(simp only [F73,seval,hsn];first|rfl|(simp;done))
  repeat refine ob ?_
  refine awN ?_;simp only [F73,seval,hi0];repeat refine ob ?_
  repeat refine ob ?_
  refine ⟨_,aH [0,1,2,7,8] [7,17,35],M9-(k+1),by omega,k+1,?sa11,?sb11,?sc11,?na11,by omega,rfl,?st11⟩;case st11=>(simp only [F73,seval,hsn];first|rfl|(simp;done))
 refine awN ?_;simp only [F73,seval,hi0,w1];repeat refine ob ?_
 refine awF ?_;refine awQ ?_;simp only [F73,seval];refine awN ?_;simp only [F73,seval,hi0];repeat refine ob ?_
 refine awN ?_;simp only [F73,seval,hi0];repeat refine ob ?_
 obtain rfl:M9=k:=by omega
 refine ao 35 17 3 (by rfl) (by rfl) (by rfl) (by decide) (by show (5:Nat)≠0;decide) (by show (5:Nat)≠0;decide) rfl ?_;simp only [F73,seval];refine be (vt 17 [.lit (.bool false),.lit (.string cc),.lit (.string cc),.sh 5 M9 (ar aA (cK M9)),.sh 1 0 []] (by rfl) (by show (5:Nat)≠0;decide) (by rfl) (fun κ vs h=>?_)) ?_
 ·obtain ⟨v1,vs1,rfl,d1,h⟩:=aW h;obtain ⟨v2,vs2,rfl,d2,h⟩:=aW h;obtain ⟨v3,vs3,rfl,d3,h⟩:=aW h;obtain ⟨v4,vs4,rfl,d4,h⟩:=aW h;obtain ⟨v5,vs5,rfl,d5,h⟩:=aW h;exact ⟨d1,d2,d3,d4,jY 1 d5,h⟩
 simp only [F73,seval];refine ao 17 7 0 (by rfl) (by rfl) (by rfl) (by decide) (by show (5:Nat)≠0;decide) (by show (2:Nat)≠0;decide) rfl ?_;simp only [F73,seval];refine be (vt 7 [.sh 5 1 [.lit (.bool false),.lit (.string cc),.lit (.string cc),.sh 5 M9 (ar aA (cK M9)),.sh 1 0 []],.sh 4 0 []] (by rfl) (by show (2:Nat)≠0;decide) (by rfl) (fun κ vs h=>?_)) ?_
 ·obtain ⟨v1,vs1,rfl,d1,h⟩:=aW h;obtain ⟨v2,vs2,rfl,d2,h⟩:=aW h;exact ⟨d1,jY 4 d2,h⟩
 simp only [F73,seval];have hbx:au (gkL M9)=[.sh 5 1 [.lit (.bool false),.lit (.string cc),.lit (.string cc),.sh 5 M9 (ar aA (cK M9)),.sh 1 0 []],.sh 4 0 []]:=by simp [au,gkL,bh,aY,ej,d7,gZ,cc]
 refine rS 9 57 61 6 (by decide) (by rfl) ?_;simp only [F73,seval];refine aQ [0,1,2,7,9,10] [7,57] ?_;try simp only [aq,F73,seval,hi0]
 repeat' first|apply awS|apply awB
 refine aB (fun n st=>∃k t7 s rs nx,k<=R9/\n=R9-k/\rs.length=k/\(∀r∈rs,sB 1000000 r.amount)/\st=⟨mkT [(0,one (.int .u8 ca)),(1,one (.int .u8 re)),(2,one (.int .u16 no)),(7,.val (.one (.ptr 7 t7 0))),(9,.val (.one (.own 57 s k 6))),(10,one (.int .i64 k))],mkH [(7,⟨t7,28,2,1,au (gkL M9)⟩),(57,⟨s,61,6,k,ar di rs⟩)],nx,0⟩) (R9) ⟨0,_,_,[],_,by omega,by omega,rfl,by simp,by rw [hbx];first|rfl|(simp only [F73,seval];rfl)⟩ ?_;rintro n1 st ⟨k,t7,s,rs,nx1,hk,rfl,hrs,hrB,rfl⟩;by_cases hi1:(k:Int)<(R9:Int)
 ·refine awN ?_;simp only [F73,seval,hi0,hi1,w2];repeat refine ob ?_
  refine awT ?_;refine awK ?_;simp only [F73,seval];refine awN ?_;simp only [F73,seval,hi0,hi1];repeat refine ob ?_
  by_cases hb:((no/2^(k%16)%2:Nat):Int)=1
  ·have w3:((k:Nat):Int).tmod 16=((k%16:Nat):Int):=Br k 16;have hk16:k%16<16:=Nat.mod_lt _ (by decide);have w4:=p5 (k%16) (by omega);have w5:=o7 no (k%16) hno (by omega);refine awN ?_;simp only [F73,seval,hi0,hi1,hb,w3,w4,w5];repeat refine ob ?_
   refine awT ?_;refine awN ?_;simp only [F73,seval,hi0,hi1,hb];repeat refine ob ?_
   refine awN ?_;simp only [F73,seval,hi0,hi1,hb];repeat refine ob ?_
   refine awN ?_;simp only [F73,seval,hi0,hi1,hb];repeat refine ob ?_
   repeat refine ob ?_
   refine ⟨_,aH [0,1,2,7,9,10] [7,57],R9-(k+1),by omega,k+1,?sa21,?sb21,rs++[⟨0,-1,-1,gZ⟩],?na21,by omega,rfl,by simp [hrs],?bd21,?st21⟩;case bd21=>
    intro r hr;rcases List.mem_append.1 hr with hr|hr
    ·exact hrB r hr
    obtain rfl:=List.mem_singleton.1 hr;exact f4 _
   case st21=>(simp only [F73,seval,ay,di,gZ];first|rfl|(simp;done))
  have w3:((k:Nat):Int).tmod 16=((k%16:Nat):Int):=Br k 16;have hk16:k%16<16:=Nat.mod_lt _ (by decide);have w4:=p5 (k%16) (by omega);have w5:=o7 no (k%16) hno (by omega);refine awN ?_;simp only [F73,seval,hi0,hi1,hb,w3,w4,w5];repeat refine ob ?_
  refine awF ?_;refine awK ?_;simp only [F73,seval];refine awN ?_;simp only [F73,seval,hi0,hi1,hb];repeat refine ob ?_
  refine awN ?_;simp only [F73,seval,hi0,hi1,hb];repeat refine ob ?_
  repeat refine ob ?_
  refine ⟨_,aH [0,1,2,7,9,10] [7,57],R9-(k+1),by omega,k+1,?sa25,?sb25,rs++[⟨0,-1,2,gZ⟩],?na25,by omega,rfl,by simp [hrs],?bd25,?st25⟩;case bd25=>
   intro r hr;rcases List.mem_append.1 hr with hr|hr
   ·exact hrB r hr
   obtain rfl:=List.mem_singleton.1 hr;exact f4 _
  case st25=>(simp only [F73,seval,ay,di,gZ];first|rfl|(simp;done))
 refine awN ?_;simp only [F73,seval,hi0,hi1,w2];repeat refine ob ?_
 refine awF ?_;refine awQ ?_;simp only [F73,seval];obtain rfl:R9=k:=by omega
 rw [←hrs];refine dL (t:=9) (by rfl) (by rfl) (by decide) (by rfl) ?_;simp only [F73,seval];have hn24:M9<=24:=by omega
 obtain ⟨hv1,hv2⟩:=p6 M9 hn24;have hX:=Ls (gkL M9) rs (l6 M9 hn24) (bJ (l7 M9 hn24)) hv1 hrB (by omega);have hY:=K4 (gkL M9) rs (l6 M9 hn24) (l7 M9 hn24) hv1 hrB (by omega);rw [←ez] at hY;have hZ:=Ma (nW (gkL M9)) (gkL M9) rs (by simp [gkL]) hv2 (by simp [gkL]) (by simp [gkL]);generalize rvS (nW (gkL M9)) (gkL M9) rs=Z at *
 have hS:=J8 Z.1 hZ;rw [hbx] at hX hY;simp only [au] at hX hY hS;refine awN ?_;simp only [F73,seval,hi0,hi1,hbx,ab bA,ab p9];repeat refine ob ?_
 refine ⟨_,hX,(by first|rfl|simp [bu,aI,av,az,A1.cells,au,ab ak,ab ai,ab p9,ab bA]),?_⟩;try simp only [aq,F73,seval,hi0,hi1,hbx,ab bA,ab p9]
 repeat refine ob ?_
 refine awN ?_;simp only [F73,seval,hi0,hi1,hbx,ab bA,ab p9];repeat refine ob ?_
 refine ⟨_,hY,(by first|rfl|simp [bu,aI,av,az,A1.cells,au,ab ak,ab ai,ab p9,ab bA]),?_⟩;try simp only [aq,F73,seval,hi0,hi1,hbx,ab bA,ab p9]
 repeat refine ob ?_
 refine awR [] [0,0,145,145,145,0,0,155,155,155,0,0] ?_;simp only [F73,seval,hi0,hi1,ab ak,ab ai,BEq.rfl,decide_true];repeat refine ob ?_
 refine ⟨_,vE,(by first|rfl|simp [bu,aI,av,az,A1.cells,au,ab ak,ab ai,ab p9,ab bA]),?_⟩;try simp only [aq,F73,seval,hi0,hi1,ab ak,ab ai,BEq.rfl,decide_true]
 repeat refine ob ?_
 refine ⟨_,hS,(by first|rfl|simp [bu,aI,av,az,A1.cells,au,ab ak,ab ai,ab p9,ab bA]),?_⟩;try simp only [aq,F73,seval,hi0,hi1,ab ak,ab ai,BEq.rfl,decide_true]
 repeat refine ob ?_
 refine awX ?_;(first|(simp only [F73,seval,hi0,hi1];done)|(simp only [F73,seval];first|(simp [hi0,hi1];done)))
theorem o4 (v0 v1 v2:Value) (ca re no:Nat) (W:World) (o0:rC (fun n:Nat=>[.lit (.int .u8 n)]) (·<256) W (LT W.heap.size) [v0] ca) (o1:rC (fun n:Nat=>[.lit (.int .u8 n)]) (·<256) W (LT W.heap.size) [v1] re) (o2:rC vB (·<65536) W (LT W.heap.size) [v2] no):
  Calls prog 5 #[v0,v1,v2] W fun e w'=>e= .returned (.bool true)/\Below W.heap.size W w':=by
 obtain ⟨h0,k0⟩:=fH o0 rfl;obtain ⟨h1,k1⟩:=fH o1 rfl;obtain ⟨h2,k2⟩:=fH o2 rfl;exact tR (vs:=[v0,v1,v2]) (p7 ca re no k0 k1 k2) ⟨h0,h1,h2,trivial⟩
end Go.Proofs.YtcgpghifhehlhaaGreatDoor
