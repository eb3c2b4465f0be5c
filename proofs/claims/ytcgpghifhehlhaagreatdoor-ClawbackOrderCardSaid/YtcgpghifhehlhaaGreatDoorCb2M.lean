/- Demands sorted: slices.SortStableFunc with clawback.compare, what it reaches; walked by the abstract machine. -/
import Derived.Test.YtcgpghifhehlhaaGreatDoorJfM
import Derived.Test.YtcgpghifhehlhaaGreatDoorCb1M
import Derived.Test.YtcgpghifhehlhaaGreatDoorAbZM
import Derived.Test.YtcgpghifhehlhaaGreatDoorGu1M
set_option linter.unusedVariables false
set_option maxHeartbeats 4000000
set_option maxRecDepth 100000
set_option linter.unusedSimpArgs false
set_option linter.defProp false
namespace Go.Proofs.YtcgpghifhehlhaaGreatDoor
open Go Go.RowKit Go.Proofs.Tryz
def FW (x y:Int):Int:=if x<y then -1 else if y<x then 1 else 0
def orI:List Int->Int
 |[]=>0
 |x::l=>if x=0 then orI l else x
def FX (a b:Dem):Int:=orI [FW a.deb b.deb,FW a.par b.par,FW a.gnd b.gnd]
theorem FN (a b:Dem):FX a b<0↔klt a b:=by
 simp only [FX,orI,FW,klt];repeat' split
 all_goals first|omega|(constructor<;>intro _<;>omega)
theorem GV (a b:Dem):FX a b=0↔keq a b:=by
 simp only [FX,orI,FW,keq];repeat' split
 all_goals first|omega|(constructor<;>intro _<;>omega)
def eg:C:= .lit (.func (.func 59) #[] #[])
theorem eD {H f:Hp} (hb:∀y B,H y=some B->y<1000) (hf:∀x,x<1000->x≠33->f x=H x) (l:List Nat):∀x B,H x=some B->fI (33::l) x=true∨f x=some B:=fun x B h=>by
 by_cases hx:x=33
 ·left;subst hx;rfl
 right;rw [hf x (hb x B h) hx];exact h
theorem IM (H:Hp) (x y:Option Blk):up (up H 33 x) 33 y=up H 33 y:=by
 funext n;simp only [aj];split<;>rfl
def Fz (H:Hp) (s N9:Nat) (l:List Dem):Hp:=bW H [(33,⟨s,88,4,N9,ar dn l⟩)]
theorem GW (x:Int):ch prog 149 [.one (.lit (.int .i64 x))] (one (.bool false)):=by
 refine bF func149 rfl (by decide) (N:=6) rfl (by simp) (R:=[.tmp 2]) rfl fun en k0=>?_
 refine awN ?_;simp only [zT,seval,ne_eq,not_true_eq_false,decide_false];repeat refine ob ?_
 refine awN ?_;simp only [zT,seval,ne_eq,not_true_eq_false,decide_false];repeat refine ob ?_
 refine awX ?_;(first|(simp only [zT,seval,ne_eq,not_true_eq_false,decide_false];done)|(simp only [zT,seval,ne_eq,not_true_eq_false,decide_false];first|(simp [];done)))
theorem FS (x y:Int):ch prog 105 [.one (.lit (.int .i64 x)),.one (.lit (.int .i64 y))] (one (.int .i64 (FW x y))):=by
 refine bF func105 rfl (by decide) (N:=20) rfl (by simp) (R:=[.tmp 4]) rfl fun en k0=>?_
 refine awN ?_;simp only [zT,seval];repeat refine ob ?_
 refine awN ?_;simp only [zT,seval];repeat refine ob ?_
 refine ⟨_,(GW x),rfl,?_⟩;try simp only [aq,zT,seval]
 repeat refine ob ?_
 refine awN ?_;simp only [zT,seval];repeat refine ob ?_
 refine ⟨_,(GW y),rfl,?_⟩;try simp only [aq,zT,seval]
 repeat refine ob ?_
 refine awN ?_;simp only [zT,seval];repeat refine ob ?_
 refine awF ?_;refine awK ?_;simp only [zT,seval];refine awN ?_;simp only [zT,seval];repeat refine ob ?_
 refine awF ?_;refine awK ?_;simp only [zT,seval];by_cases h1:x<y
 ·skip;refine awN ?_;simp only [zT,seval,h1];repeat refine ob ?_
  refine awT ?_;refine awN ?_;simp only [zT,seval,h1];repeat refine ob ?_
  refine awX ?_;simp only [zT,seval,FW,h1]
 skip;refine awN ?_;simp only [zT,seval,h1];repeat refine ob ?_
 refine awF ?_;refine awK ?_;simp only [zT,seval];by_cases h2:y<x
 ·skip;refine awN ?_;simp only [zT,seval,h1,h2];repeat refine ob ?_
  refine awT ?_;refine awN ?_;simp only [zT,seval,h1,h2];repeat refine ob ?_
  refine awX ?_;simp only [zT,seval,FW,h1,h2]
 skip;refine awN ?_;simp only [zT,seval,h1,h2];repeat refine ob ?_
 refine awF ?_;refine awK ?_;simp only [zT,seval];refine awN ?_;simp only [zT,seval,h1,h2];repeat refine ob ?_
 refine awX ?_;simp only [zT,seval,FW,h1,h2]
def F6:=And.intro zS (And.intro pk (And.intro tv (tw)))
theorem F7:type_of%F6:=F6
theorem I1 (ps:List Int) (hn:ps.length<=1000000000000):ch prog 104 [.one (.sh 1 ps.length (ar cI ps))] (one (.int .i64 (orI ps))):=by
 refine bF func104 rfl (by decide) (N:=18) rfl (by simp) (R:=[.tmp 2]) rfl fun en k0=>?_
 refine awN ?_;simp only [F7,seval];repeat refine ob ?_
 refine awN ?_;simp only [F7,seval];repeat refine ob ?_
 refine awN ?_;simp only [F7,seval];repeat refine ob ?_
 refine aQ [3,6,7,8] [] ?_;try simp only [aq,F7,seval]
 repeat' first|apply awS|apply awB
 refine aB (fun n st=>∃k nx,k<=ps.length/\n=ps.length-k/\orI (ps.drop k)=orI ps/\st=⟨mkT [(3,one (.int .i64 0)),(6,.val (.one (.sh 1 ps.length (ar cI ps)))),(7,one (.int .i64 ps.length)),(8,one (.int .i64 k))],mkH [],nx,0⟩) (ps.length) ⟨0,_,by omega,by omega,by rfl,rfl⟩ ?_;rintro n0 st ⟨k,nx0,hk0,rfl,hL0,rfl⟩;by_cases hlt0:k<ps.length
 ·skip;have hI0:(k:Int)<(ps.length:Int):=by omega
  have hat0:=aO qP ps k hlt0;try rw [Nat.mul_one] at hat0
  rw [List.drop_eq_getElem_cons hlt0] at hL0;generalize ps[k]=x at *
  simp only [orI] at hL0;refine awN ?_;simp only [F7,seval,hI0,hat0];repeat refine ob ?_
  refine awT ?_;refine awK ?_;simp only [F7,seval];refine awN ?_;simp only [F7,seval,hI0,hat0,hat0,cI];repeat refine ob ?_
  by_cases hx:x=0
  ·skip;refine awN ?_;simp only [F7,seval,hI0,hat0,hx];repeat refine ob ?_
   refine awF ?_;refine awK ?_;simp only [F7,seval];refine awN ?_;simp only [F7,seval,hI0,hat0,hx];repeat refine ob ?_
   repeat refine ob ?_
   refine ⟨_,aH [3,6,7,8] [],ps.length-(k+1),by omega,k+1,?a7_nx,by omega,rfl,?i7_0,?st7⟩;case st7=>(simp only [F7,seval,hI0,hat0,hx];first|rfl|(simp [hI0,hat0,hx,Nat.add_mul];done))
   case i7_0=>(first|exact hL0|(rw [←hL0];simp only [reduceIte,hI0,hat0,hx];done)|(rw [←hL0];simp [hI0,hat0,hx];done)|(simp [hI0,hat0,hx] at hL0;simpa using hL0)|(rw [←hL0];simp [*];done))
  skip;refine awN ?_;simp only [F7,seval,hI0,hat0,hx];repeat refine ob ?_
  refine awT ?_;refine awN ?_;simp only [F7,seval,hI0,hat0,hx];repeat refine ob ?_
  refine awX ?_;rw [←hL0];simp only [F7,seval];simp [hx]
 skip;obtain rfl:k=ps.length:=by omega
 have hI0:¬(ps.length:Int)<(ps.length:Int):=by omega
 rw [List.drop_length] at hL0;simp only [orI] at hL0;refine awN ?_;simp only [F7,seval,hI0];repeat refine ob ?_
 refine awF ?_;refine awQ ?_;simp only [F7,seval];refine awN ?_;simp only [F7,seval,hI0];repeat refine ob ?_
 refine awX ?_;rw [←hL0];simp only [F7,seval]
def F8:=And.intro zS (And.intro tv (And.intro pl (And.intro tx (And.intro tz (And.intro tw (pm))))))
theorem F9:type_of%F8:=F8
theorem B5 (a b:Dem):ch prog 59 [.agg (dn a),.agg (dn b)] (one (.int .i64 (FX a b))):=by
 have hO:=I1 [FW a.deb b.deb,FW a.par b.par,FW a.gnd b.gnd] (by simp);simp only [ar,cI,List.length_cons,List.length_nil,Nat.zero_add,Nat.reduceAdd] at hO;refine bF func59 rfl (by decide) (N:=22) rfl (by simp) (R:=[.tmp 4]) rfl fun en k0=>?_
 refine awN ?_;simp only [F9,seval,dn];repeat refine ob ?_
 refine awD (scT 0 4 (scT 5 4 (scT 10 4 (scq [8,18,28,30,32,35] .nil)))) [0,0,0,0,0,0,0,0,0,0,0,0,0,0,0,0,0,0] ?_;simp only [F9,seval,dn];repeat refine ob ?_
 refine ⟨_,(FS a.deb b.deb),rfl,?_⟩;try simp only [aq,F9,seval,dn]
 repeat refine ob ?_
 refine ⟨_,(FS a.par b.par),rfl,?_⟩;try simp only [aq,F9,seval,dn]
 repeat refine ob ?_
 refine ⟨_,(FS a.gnd b.gnd),rfl,?_⟩;try simp only [aq,F9,seval,dn]
 repeat refine ob ?_
 refine ⟨_,hO,rfl,?_⟩;try simp only [aq,F9,seval,dn]
 repeat refine ob ?_
 refine awX ?_;(first|(simp only [F9,seval,dn,FX];done)|(simp only [F9,seval,dn];first|(simp [FX];done)))
theorem n5 (l:List Dem) (k:Nat) (x:Dem) (h:k<l.length):spl (ar dn l) (k*4) (dn x)=ar dn (l.set k x):=by
 have h1:=iD AF l k 0 (dn x) x h (by simp [dn]) (by simp [dn,spl]);rwa [Nat.add_zero] at h1
def F10:=And.intro zS (And.intro tA (And.intro tu (xe)))
theorem F11:type_of%F10:=F10
theorem Gm (a b m:Nat) (H:Hp) (ny s N9:Nat) (hbH:∀y B,H y=some B->y<1000) (hN9:N9<=1000) (l:List Dem) (hN:l.length=N9) (h33:H 33=some ⟨s,88,4,N9,ar dn l⟩) (ha:a+m<=N9) (hb:b+m<=N9) (hd:a+m<=b∨b+m<=a):
  dk prog 234 [.one (.own 33 s N9 4),.one (.lit (.int .i64 a)),.one (.lit (.int .i64 b)),.one (.lit (.int .i64 m)),.one eg] H ny (fun res H' _=>∃l2,res= .tup []/\(l2.Perm l/\at9 l2=sw9 (at9 l) a b m)/\H'=Fz H s N9 l2):=by
 refine fm 1000 func234 rfl (by decide) (N:=38) rfl (by simp) (Rl:=[]) rfl fun en k0=>?_
 refine awN ?_;simp only [F11,seval];repeat refine ob ?_
 refine aE H [0,1,2,3,10] [33] (eD hbH (fun x h1 h2=>by (try simp only [aj]);repeat rw [if_neg (by omega)]) _) ?_;try simp only [aq,F11,seval]
 repeat' first|apply awS|apply awB
 refine aB (fun n st=>∃i l2 nx,i<=m/\n=m-i/\l2.Perm l/\at9 l2=sw9 (at9 l) a b i/\st=⟨mkT [(0,.val (.one (.own 33 s N9 4))),(1,one (.int .i64 a)),(2,one (.int .i64 b)),(3,one (.int .i64 m)),(10,one (.int .i64 i))],bW H [(33,⟨s,88,4,N9,ar dn l2⟩)],nx,1000⟩) (m) ⟨0,l,_,by omega,by omega,List.Perm.refl _,(Hr _ _ _).symm,by simp only [F11,seval,h33];rfl⟩ ?_;rintro n0 st ⟨i,l2,nx0,hi,rfl,hpm,hat9,rfl⟩;by_cases hlt0:(i:Int)<(m:Int)
 ·refine awN ?_;simp only [F11,seval,hlt0];repeat refine ob ?_
  refine awT ?_;refine awK ?_;simp only [F11,seval];obtain ⟨p,hp⟩:∃p,p=a+i:=⟨_,rfl⟩;obtain ⟨q,hq⟩:∃q,q=b+i:=⟨_,rfl⟩;have zp:(a:Int)+(i:Int)=(p:Int):=by omega
  have zq:(b:Int)+(i:Int)=(q:Int):=by omega
  have hlN:l2.length=N9:=hpm.length_eq.trans hN;have hll:l2.length=N9:=hlN;have hpl:p<l2.length:=by omega
  have hql:q<l2.length:=by omega
  have hap:=aO AF l2 p hpl;have haq:=aO AF l2 q hql;rw [←dx hpl] at hap;rw [←dx hql] at haq;obtain ⟨x9,hx9⟩:∃x,at9 l2 p=x:=⟨_,rfl⟩;obtain ⟨y9,hy9⟩:∃x,at9 l2 q=x:=⟨_,rfl⟩;rw [hx9] at hap;rw [hy9] at haq;have hln:=aS AF l2;rw [hll] at hln;have hs1:=n5 l2 p y9 hpl;have hs2:=n5 l2 q x9 hql;have hs3:=n5 (l2.set p y9) q x9 (by simpa using hql);have hs4:=n5 (l2.set q x9) p y9 (by simpa using hpl);have hl1:=aS AF (l2.set p y9);have hl2:=aS AF (l2.set q x9);rw [List.length_set,hll] at hl1 hl2;have hcm:(l2.set q x9).set p y9=(l2.set p y9).set q x9:=List.set_comm _ _ (by omega);have hsw:(l2.set p y9).set q x9=swd l2 p q:=by rw [←hx9,←hy9];rfl
  rw [hcm] at hs4;rw [hsw] at hs3 hs4;have hgp:∀z,(ar dn (l2.set p z)).length=N9*4:=fun z=>by rw [aS AF,List.length_set,hll]
  simp only [dn] at hap haq hs1 hs2 hs3 hs4;refine awD (scT 0 21 (scq [42,45,46] .nil)) [0,0,0,0,0,0,0,0,0,0,0,0,0,0,0,0,0,0,0,0,0,0,0,0] ?_;simp only [F11,seval,hlt0,zp,zq,hap,haq,hln,hs1,hs2,hs3,hs4,hl1,hl2];repeat refine ob ?_
  refine awN ?_;simp only [F11,seval,hlt0];repeat refine ob ?_
  repeat refine ob ?_
  refine ⟨_,bE H [0,1,2,3,10] [33] (eD hbH (fun x h1 h2=>by (try simp only [aj]);repeat rw [if_neg (by omega)]) _),m-(i+1),by omega,i+1,swd l2 p q,?na5,by omega,rfl,(FM hpl hql).trans hpm,?at5,?st5⟩;case at5=>(rw [hp,hq];exact Hs hat9 (by omega) (by omega) (by omega))
  case st5=>(simp only [F11,seval];first|rfl|(simp;done))
 refine awN ?_;simp only [F11,seval,hlt0];repeat refine ob ?_
 refine awF ?_;refine awQ ?_;simp only [F11,seval];obtain rfl:i=m:=by omega
 exact ⟨l2,⟨hpm,hat9⟩,rfl⟩
theorem Hy (a m b:Nat) (H:Hp) (ny s N9:Nat) (hbH:∀y B,H y=some B->y<1000) (hN9:N9<=1000) (l:List Dem) (hN:l.length=N9) (h33:H 33=some ⟨s,88,4,N9,ar dn l⟩) (ham:a<m) (hmb:m<b) (hb:b<=N9):
  dk prog 190 [.one (.own 33 s N9 4),.one (.lit (.int .i64 a)),.one (.lit (.int .i64 m)),.one (.lit (.int .i64 b)),.one eg] H ny (fun res H' _=>∃l2,res= .tup []/\(l2.Perm l/\at9 l2=s0 (at9 l) a m b)/\H'=Fz H s N9 l2):=by
 refine fm 1000 func190 rfl (by decide) (N:=58) rfl (by simp) (Rl:=[]) rfl fun en k0=>?_
 obtain ⟨i0,hi0⟩:∃x,x=m-a:=⟨_,rfl⟩;have z0:(m:Int)-(a:Int)=(i0:Int):=by omega
 obtain ⟨j0,hj0⟩:∃x,x=b-m:=⟨_,rfl⟩;have z1:(b:Int)-(m:Int)=(j0:Int):=by omega
 refine awN ?_;simp only [zT,seval,z0];repeat refine ob ?_
 refine awN ?_;simp only [zT,seval,z1];repeat refine ob ?_
 refine aE H [0,1,2,3,4,10,11] [33] (eD hbH (fun x h1 h2=>by (try simp only [aj]);repeat rw [if_neg (by omega)]) _) ?_;try simp only [aq,zT,seval]
 repeat' first|apply awS|apply awB
 refine aB (fun n st=>∃i j l2 nx,0<i/\0<j/\i<=m-a/\m+j<=b/\n=i+j/\l2.Perm l/\s0 (at9 l2) (m-i) m (m+j)=s0 (at9 l) a m b/\st=⟨mkT [(0,.val (.one (.own 33 s N9 4))),(1,one (.int .i64 a)),(2,one (.int .i64 m)),(3,one (.int .i64 b)),(4,.val (.one eg)),(10,one (.int .i64 i)),(11,one (.int .i64 j))],bW H [(33,⟨s,88,4,N9,ar dn l2⟩)],nx,1000⟩) (i0+j0) ⟨i0,j0,l,_,by omega,by omega,by omega,by omega,rfl,List.Perm.refl _,by rw [show m-i0=a by omega,show m+j0=b by omega],by simp only [zT,seval,h33];rfl⟩ ?_;rintro n0 st ⟨i,j,l2,nx0,hi,hj,him,hjm,rfl,hpm,hrt,rfl⟩;by_cases he:(i:Int)=(j:Int)
 ·refine awN ?_;simp only [zT,seval,he];repeat refine ob ?_
  refine awF ?_;refine awQ ?_;simp only [zT,seval];obtain rfl:i=j:=by omega
  obtain ⟨mi,hmi⟩:∃x,x=m-i:=⟨_,rfl⟩;have zmi:(m:Int)-(i:Int)=(mi:Int):=by omega
  have hl2:l2.length=N9:=hpm.length_eq.trans hN;refine awR [57] [0,0,0,0,0,0,0,0] ?_;simp only [zT,seval,he,zmi];repeat refine ob ?_
  refine ⟨_,Gm mi m i _ _ s N9 ?_ hN9 l2 hl2 ?_ (by omega) (by omega) (by omega),?_⟩
  ·intro x B hB;simp only [aj] at hB;repeat (split at hB;· omega)
   exact hbH x B hB
  ·simp only [aj];rfl
  rintro res H' nx' ⟨l3,rfl,⟨hp3,ha3⟩,rfl⟩;simp only [Fz];try simp only [aq,zT,seval,he,zmi]
  repeat refine ob ?_
  have hfin:at9 l3=s0 (at9 l) a m b:=by rw [ha3,hmi,IG _ m i (by omega)];exact hrt
  first|exact ⟨⟨hp3.trans hpm,hfin⟩,IM _ _ _⟩|exact ⟨l3,⟨hp3.trans hpm,hfin⟩,IM _ _ _⟩
 refine awN ?_;simp only [zT,seval,he];repeat refine ob ?_
 refine awT ?_;refine awK ?_;simp only [zT,seval];by_cases hg:(j:Int)<(i:Int)
 ·refine awN ?_;simp only [zT,seval,he,hg];repeat refine ob ?_
  refine awT ?_;obtain ⟨mi,hmi⟩:∃x,x=m-i:=⟨_,rfl⟩;have zmi:(m:Int)-(i:Int)=(mi:Int):=by omega
  have hl2:l2.length=N9:=hpm.length_eq.trans hN;refine awR [31] [0,0,0,0,0,0,0,0] ?_;simp only [zT,seval,he,hg,zmi];repeat refine ob ?_
  refine ⟨_,Gm mi m j _ _ s N9 ?_ hN9 l2 hl2 ?_ (by omega) (by omega) (by omega),?_⟩
  ·intro x B hB;simp only [aj] at hB;repeat (split at hB;· omega)
   exact hbH x B hB
  ·simp only [aj];rfl
  rintro res H' nx' ⟨l3,rfl,⟨hp3,ha3⟩,rfl⟩;simp only [Fz];try simp only [aq,zT,seval,he,hg,zmi]
  repeat refine ob ?_
  obtain ⟨i9,hi9⟩:∃x,x=i-j:=⟨_,rfl⟩;have zi9:(i:Int)-(j:Int)=(i9:Int):=by omega
  refine awN ?_;simp only [zT,seval,he,hg,zi9];repeat refine ob ?_
  repeat refine ob ?_
  refine ⟨_,bE H [0,1,2,3,4,10,11] [33] (eD hbH (fun x h1 h2=>by (try simp only [aj]);repeat rw [if_neg (by omega)]) _),i9+j,by omega,i9,j,l3,?na9,by omega,by omega,by omega,by omega,rfl,hp3.trans hpm,?rt9,?st9⟩;case rt9=>(rw [ha3,hmi,hi9,IE _ m i j (by omega) (by omega) (by omega)];exact hrt)
  case st9=>(simp only [zT,seval];first|rfl|(simp;done))
 refine awN ?_;simp only [zT,seval,he,hg];repeat refine ob ?_
 refine awF ?_;obtain ⟨mi,hmi⟩:∃x,x=m-i:=⟨_,rfl⟩;have zmi:(m:Int)-(i:Int)=(mi:Int):=by omega
 obtain ⟨mj,hmj⟩:∃x,x=m+j:=⟨_,rfl⟩;have zmj:(m:Int)+(j:Int)=(mj:Int):=by omega
 obtain ⟨mji,hmji⟩:∃x,x=mj-i:=⟨_,rfl⟩;have zmji:(mj:Int)-(i:Int)=(mji:Int):=by omega
 have hl2:l2.length=N9:=hpm.length_eq.trans hN;refine awR [46] [0,0,0,0,0,0,0,0,0,0,0,0] ?_;simp only [zT,seval,he,hg,zmi,zmj,zmji];repeat refine ob ?_
 refine ⟨_,Gm mi mji i _ _ s N9 ?_ hN9 l2 hl2 ?_ (by omega) (by omega) (by omega),?_⟩
 ·intro x B hB;simp only [aj] at hB;repeat (split at hB;· omega)
  exact hbH x B hB
 ·simp only [aj];rfl
 rintro res H' nx' ⟨l3,rfl,⟨hp3,ha3⟩,rfl⟩;simp only [Fz];try simp only [aq,zT,seval,he,hg,zmi,zmj,zmji]
 repeat refine ob ?_
 obtain ⟨j9,hj9⟩:∃x,x=j-i:=⟨_,rfl⟩;have zj9:(j:Int)-(i:Int)=(j9:Int):=by omega
 refine awN ?_;simp only [zT,seval,he,hg,zj9];repeat refine ob ?_
 repeat refine ob ?_
 refine ⟨_,bE H [0,1,2,3,4,10,11] [33] (eD hbH (fun x h1 h2=>by (try simp only [aj]);repeat rw [if_neg (by omega)]) _),i+j9,by omega,i,j9,l3,?na13,by omega,by omega,by omega,by omega,rfl,hp3.trans hpm,?rt13,?st13⟩;case rt13=>(rw [ha3,hmi,hj9,hmji,hmj,IF _ m i j (by omega) (by omega) (by omega)];exact hrt)
 case st13=>(simp only [zT,seval];first|rfl|(simp;done))
def F12:=And.intro zS (And.intro tA (And.intro tu (xe)))
theorem F13:type_of%F12:=F12
theorem GA (a b:Nat) (H:Hp) (ny s N9:Nat) (hbH:∀y B,H y=some B->y<1000) (hN9:N9<=1000) (l:List Dem) (hN:l.length=N9) (h33:H 33=some ⟨s,88,4,N9,ar dn l⟩) (hab:a<=b) (hb:b<=N9):
  dk prog 147 [.one (.own 33 s N9 4),.one (.lit (.int .i64 a)),.one (.lit (.int .i64 b)),.one eg] H ny (fun res H' _=>∃l2,res= .tup []/\(Same9 l l2 a b/\Srt l2 a b)/\H'=Fz H s N9 l2):=by
 refine fm 1000 func147 rfl (by decide) (N:=53) rfl (by simp) (Rl:=[]) rfl fun en k0=>?_
 refine awN ?_;simp only [F13,seval];repeat refine ob ?_
 refine aE H [0,1,2,3,8] [33] (eD hbH (fun x h1 h2=>by (try simp only [aj]);repeat rw [if_neg (by omega)]) _) ?_;try simp only [aq,F13,seval]
 repeat' first|apply awS|apply awB
 refine aB (fun n st=>∃i l2 nx,a+1<=i/\n=b-i/\Same9 l l2 a b/\Srt l2 a i/\st=⟨mkT [(0,.val (.one (.own 33 s N9 4))),(1,one (.int .i64 a)),(2,one (.int .i64 b)),(3,.val (.one eg)),(8,one (.int .i64 i))],bW H [(33,⟨s,88,4,N9,ar dn l2⟩)],nx,1000⟩) (b-(a+1)) ⟨a+1,l,_,by omega,rfl,Same9.refl _ _ _,Gk _ _ _ (by omega),by simp only [F13,seval,h33];first|rfl|(simp;done)⟩ ?_;rintro n0 st ⟨i,l2,nx0,hi,rfl,hsm,hsr,rfl⟩;by_cases hlt0:(i:Int)<(b:Int)
 ·refine awN ?_;simp only [F13,seval,hlt0];repeat refine ob ?_
  refine awT ?_;refine awK ?_;simp only [F13,seval];refine awN ?_;simp only [F13,seval,hlt0];repeat refine ob ?_
  refine aE H [0,1,2,3,8,9] [33] (eD hbH (fun x h1 h2=>by (try simp only [aj]);repeat rw [if_neg (by omega)]) _) ?_;try simp only [aq,F13,seval,hlt0]
  repeat' first|apply awS|apply awB
  refine aB (fun n st=>∃j l3 nx,a<=j/\j<=i/\n=j-a/\Same9 l l3 a b/\Ho l3 a j (i+1)/\st=⟨mkT [(0,.val (.one (.own 33 s N9 4))),(1,one (.int .i64 a)),(2,one (.int .i64 b)),(3,.val (.one eg)),(8,one (.int .i64 i)),(9,one (.int .i64 j))],bW H [(33,⟨s,88,4,N9,ar dn l3⟩)],nx,1000⟩) (i-a) ⟨i,l2,_,by omega,by omega,rfl,hsm,G8 hsr,by simp only [F13,seval];first|rfl|(simp;done)⟩ ?_;rintro n1 st ⟨j,l3,nx1,haj,hji,rfl,hsm3,hins,rfl⟩;by_cases hj:(a:Int)<(j:Int)
  ·obtain ⟨j1,hj1⟩:∃x,j=x+1:=⟨j-1,by omega⟩;have zj:(j:Int)-1=(j1:Int):=by omega
   have hlN:l3.length=N9:=hsm3.1.length_eq.trans hN;have hll:l3.length=N9:=hlN;have hpl:j<l3.length:=by omega
   have hql:j1<l3.length:=by omega
   have hap:=aO AF l3 j hpl;have haq:=aO AF l3 j1 hql;rw [←dx hpl] at hap;rw [←dx hql] at haq;obtain ⟨x9,hx9⟩:∃x,at9 l3 j=x:=⟨_,rfl⟩;obtain ⟨y9,hy9⟩:∃x,at9 l3 j1=x:=⟨_,rfl⟩;rw [hx9] at hap;rw [hy9] at haq;have hln:=aS AF l3;rw [hll] at hln;have hs1:=n5 l3 j y9 hpl;have hs2:=n5 l3 j1 x9 hql;have hs3:=n5 (l3.set j y9) j1 x9 (by simpa using hql);have hs4:=n5 (l3.set j1 x9) j y9 (by simpa using hpl);have hl1:=aS AF (l3.set j y9);have hl2:=aS AF (l3.set j1 x9);rw [List.length_set,hll] at hl1 hl2;have hcm:(l3.set j1 x9).set j y9=(l3.set j y9).set j1 x9:=List.set_comm _ _ (by omega);have hsw:(l3.set j y9).set j1 x9=swd l3 j j1:=by rw [←hx9,←hy9];rfl
   rw [hcm] at hs4;rw [hsw] at hs3 hs4;have hgp:∀z,(ar dn (l3.set j z)).length=N9*4:=fun z=>by rw [aS AF,List.length_set,hll]
   simp only [dn] at hap haq hs1 hs2 hs3 hs4;have hC:=B5 x9 y9;simp only [dn] at hC;by_cases hc:FX x9 y9<0
   ·refine awD (scT 0 14 (scq [28,31,33] .nil)) [0,0,0,0,45,45,45,45,45,45,45,45,45,45,45,45,0] ?_;simp only [F13,seval,hlt0,hj,zj,hc,hap,haq,hln,eg];repeat refine ob ?_
    refine ⟨_,hC,rfl,?_⟩;try simp only [aq,F13,seval,hlt0,hj,zj,hc,hap,haq,hln,eg]
    repeat refine ob ?_
    refine awT ?_;refine awK ?_;simp only [F13,seval];refine awD (scT 0 15 (scq [30,33,34] .nil)) [0,0,0,0,0,0,0,0,0,0,0,0,0,0,0,0,0,0] ?_;simp only [F13,seval,hlt0,hj,zj,hc,hap,haq,hln,hs1,hs2,hs3,hs4,hl1,hl2];repeat refine ob ?_
    refine awN ?_;simp only [F13,seval,hlt0,hj,zj,hc];repeat refine ob ?_
    repeat refine ob ?_
    refine ⟨_,bE H [0,1,2,3,8,9] [33] (eD hbH (fun x h1 h2=>by (try simp only [aj]);repeat rw [if_neg (by omega)]) _),j1-a,by omega,j1,swd l3 j j1,?na7,by omega,by omega,rfl,hsm3.trans (Hn hpl hql (by omega) (by omega) (by omega) (by omega)),?in7,?st7⟩;case in7=>(have h9:=Hq (by omega) (by omega) (by omega) hins (by rw [show j-1=j1 by omega,hx9,hy9];exact (FN x9 y9).1 hc);rwa [show j-1=j1 by omega] at h9)
    case st7=>(simp only [F13,seval];first|rfl|(simp;done))
   refine awD (scT 0 14 (scq [28,31,33] .nil)) [0,0,0,0,45,45,45,45,45,45,45,45,45,45,45,45,0] ?_;simp only [F13,seval,hlt0,hj,zj,hc,hap,haq,hln,eg];repeat refine ob ?_
   refine ⟨_,hC,rfl,?_⟩;try simp only [aq,F13,seval,hlt0,hj,zj,hc,hap,haq,hln,eg]
   repeat refine ob ?_
   refine awF ?_;refine awQ ?_;simp only [F13,seval];refine awN ?_;simp only [F13,seval,hlt0,hj,zj,hc];repeat refine ob ?_
   repeat refine ob ?_
   refine ⟨_,bE H [0,1,2,3,8] [33] (eD hbH (fun x h1 h2=>by (try simp only [aj]);repeat rw [if_neg (by omega)]) _),b-(i+1),by omega,i+1,l3,?na10,by omega,rfl,hsm3,GT haj hins (.inr (by rw [show j-1=j1 by omega,hx9,hy9];exact fun h=>hc ((FN x9 y9).2 h))),?st10⟩;case st10=>(simp only [F13,seval];first|rfl|(simp;done))
  refine awD (scT 0 14 (scq [28,31,33] .nil)) [0,0,0,0,45,45,45,45,45,45,45,45,45,45,45,45,0] ?_;simp only [F13,seval,hlt0,hj];repeat refine ob ?_
  refine awF ?_;refine awQ ?_;simp only [F13,seval];refine awN ?_;simp only [F13,seval,hlt0,hj];repeat refine ob ?_
  repeat refine ob ?_
  refine ⟨_,bE H [0,1,2,3,8] [33] (eD hbH (fun x h1 h2=>by (try simp only [aj]);repeat rw [if_neg (by omega)]) _),b-(i+1),by omega,i+1,l3,?na13,by omega,rfl,hsm3,GT haj hins (.inl (by omega)),?st13⟩;case st13=>(simp only [F13,seval];first|rfl|(simp;done))
 refine awN ?_;simp only [F13,seval,hlt0];repeat refine ob ?_
 refine awF ?_;refine awQ ?_;simp only [F13,seval];exact ⟨l2,⟨hsm,fun p q h1 h2 h3=>hsr p q h1 h2 (by omega)⟩,rfl⟩
end Go.Proofs.YtcgpghifhehlhaaGreatDoor
section
/- Sorting by swaps, further: one element carried along, places found by halving. No program in sight. -/
namespace Go.Proofs.YtcgpghifhehlhaaGreatDoor
theorem IN {a b c:Dem} (h:klt a b) (k:¬klt c b):klt a c:=by unfold klt at *;omega
def upF (l:List Dem) (a k p:Nat):Dem:=if a<=p/\p<k then at9 l (p+1) else if p=k then at9 l a else at9 l p
def dnF (l:List Dem) (m k p:Nat):Dem:=if k<p/\p<=m then at9 l (p-1) else if p=k then at9 l m else at9 l p
theorem Ha (l:List Dem) (a p:Nat):at9 l p=upF l a a p:=by
 unfold upF;repeat' split
 all_goals first|omega|rfl|(congr 1;done)
theorem Hc (l:List Dem) (m p:Nat):at9 l p=dnF l m m p:=by
 unfold dnF;repeat' split
 all_goals first|omega|rfl|(congr 1;done)
theorem Hz {l l2:List Dem} {a k:Nat} (hak:a<=k) (hk:k+1<l2.length) (h:∀p,at9 l2 p=upF l a k p) (p:Nat):at9 (swd l2 k (k+1)) p=upF l a (k+1) p:=by
 rw [FE (by omega) hk,h,h,h];unfold upF;repeat' split
 all_goals first|omega|rfl|(congr 1;omega)|(subst_vars;rfl)
theorem HJ {l l2:List Dem} {m k:Nat} (hk0:0<k) (hkm:k<=m) (hk:k<l2.length) (h:∀p,at9 l2 p=dnF l m k p) (p:Nat):at9 (swd l2 k (k-1)) p=dnF l m (k-1) p:=by
 rw [FE hk (by omega),h,h,h];unfold dnF;repeat' split
 all_goals first|omega|rfl|(congr 1;omega)|(subst_vars;rfl)
theorem Ij {l l':List Dem} {a b k:Nat} (hp:l'.Perm l) (h:∀p,at9 l' p=upF l a k p) (h1:a<=k) (h2:k<b):Same9 l l' a b:=by
 refine ⟨hp,fun p h3=>?_,fun p h3 h4=>?_⟩
 ·rw [h];unfold upF;rw [if_neg (by omega),if_neg (by omega)]
 rw [h];unfold upF;split
 ·exact ⟨p+1,by omega,by omega,rfl⟩
 split
 ·exact ⟨a,by omega,by omega,rfl⟩
 exact ⟨p,h3,h4,rfl⟩
theorem Ik {l l':List Dem} {a b m k:Nat} (hp:l'.Perm l) (h:∀p,at9 l' p=dnF l m k p) (h1:a<=k) (h2:k<=m) (h5:m<b):Same9 l l' a b:=by
 refine ⟨hp,fun p h3=>?_,fun p h3 h4=>?_⟩
 ·rw [h];unfold dnF;rw [if_neg (by omega),if_neg (by omega)]
 rw [h];unfold dnF;split
 ·exact ⟨p-1,by omega,by omega,rfl⟩
 split
 ·exact ⟨m,by omega,by omega,rfl⟩
 exact ⟨p,h3,h4,rfl⟩
theorem IP {l l':List Dem} {a b i:Nat} (hab:a+1<=b) (hi:a+1<=i/\i<=b) (hs:Srt l (a+1) b) (h1:∀q,a+1<=q->q<i->klt (at9 l q) (at9 l a)) (h2:∀q,i<=q->q<b->¬klt (at9 l q) (at9 l a)) (he:∀p,at9 l' p=upF l a (i-1) p):Srt l' a b:=
 IH hab hi hs (fun q h3 h4=>h1 q h3 h4) h2 he
theorem IQ {l l':List Dem} {a m i:Nat} (hi:a<=i/\i<=m) (hs:Srt l a m) (h1:∀q,a<=q->q<i->¬klt (at9 l m) (at9 l q)) (h2:∀q,i<=q->q<m->klt (at9 l m) (at9 l q)) (he:∀p,at9 l' p=dnF l m i p):Srt l' a (m+1):=
 Hu hi hs h1 h2 he
theorem Gd {l l1 l2 l3:List Dem} {a start mid e b:Nat} (ha:a<=start) (hsm:start<=mid) (hme:mid<=e) (heb:e<=b) (g0:Same9 l l1 start e)
  (hc:∀p q,a<=p->p<mid->mid<=q->q<b->¬klt (at9 l1 q) (at9 l1 p)) (g1:Same9 l1 l2 a mid) (s1:Srt l2 a mid) (g2:Same9 l2 l3 mid b) (s2:Srt l3 mid b):Same9 l l3 a b/\Srt l3 a b:=
 ⟨(g0.mono ha heb).trans ((g1.mono (Nat.le_refl _) (by omega)).trans (g2.mono (by omega) (Nat.le_refl _))),II hc g1 s1 g2 s2 (by omega) (by omega)⟩
end Go.Proofs.YtcgpghifhehlhaaGreatDoor
end
section
/- Sorting by blocks that are doubled: what holds of the blocks. No program in sight. -/
namespace Go.Proofs.YtcgpghifhehlhaaGreatDoor
def Rest (l:List Dem) (z a n:Nat):Prop:=∀d,a<=d*z->d*z<n->Srt l (d*z) (min (d*z+z) n)
def Upto (l:List Dem) (z a:Nat):Prop:=∀d,d*z+z<=a->Srt l (d*z) (d*z+z)
theorem Ix (l:List Dem) (z:Nat) (hz:0<z):Upto l z 0:=fun d hd=>by omega
theorem Upto.add {l l':List Dem} {z c a b:Nat} (hz:0<z) (h:Upto l z a) (ha:a=c*z) (hb:b=a+z) (hs:Same9 l l' a b) (h2:Srt l' a b):Upto l' z b:=fun d hd=>by
 rcases Nat.lt_trichotomy d c with h3|h3|h3
 ·have h4:(d+1)*z<=c*z:=Nat.mul_le_mul_right z h3;rw [Nat.succ_mul] at h4;exact (h d (by omega)).out hs (.inl (by omega))
 ·subst h3;rw [←ha,←hb];exact h2
 have h4:(c+1)*z<=d*z:=Nat.mul_le_mul_right z h3;rw [Nat.succ_mul] at h4;omega
theorem Upto.fin {l l':List Dem} {z c a n:Nat} (h:Upto l z a) (ha:a=c*z) (han:a<=n) (hn:n<a+z) (hs:Same9 l l' a n) (h2:Srt l' a n):Rest l' z 0 n:=fun d _ hd=>by
 rcases Nat.lt_trichotomy d c with h3|h3|h3
 ·have h4:(d+1)*z<=c*z:=Nat.mul_le_mul_right z h3;rw [Nat.succ_mul] at h4;rw [Nat.min_eq_left (by omega)];exact (h d (by omega)).out hs (.inl (by omega))
 ·subst h3;rw [Nat.min_eq_right (by omega),←ha];exact h2
 have h4:(c+1)*z<=d*z:=Nat.mul_le_mul_right z h3;rw [Nat.succ_mul] at h4;omega
theorem Rest.two {l:List Dem} {z a c n:Nat} (h:Rest l z a n) (ha:a=c*(2*z)) (hb:a+2*z<=n) (hz:0<z):Srt l a (a+z)/\Srt l (a+z) (a+2*z):=by
 have e1:2*c*z=a:=by rw [ha,←Nat.mul_assoc,Nat.mul_comm c 2]
 have e2:(2*c+1)*z=a+z:=by rw [Nat.succ_mul,e1]
 have h1:=h (2*c) (by omega) (by omega);have h2:=h (2*c+1) (by omega) (by omega);rw [e1,Nat.min_eq_left (by omega)] at h1;rw [e2,Nat.min_eq_left (by omega),Nat.add_assoc,←Nat.two_mul] at h2;exact ⟨h1,h2⟩
theorem Rest.last {l:List Dem} {z a c n:Nat} (h:Rest l z a n) (ha:a=c*(2*z)) (hm:a+z<n) (hn:n<a+2*z):Srt l a (a+z)/\Srt l (a+z) n:=by
 have e1:2*c*z=a:=by rw [ha,←Nat.mul_assoc,Nat.mul_comm c 2]
 have e2:(2*c+1)*z=a+z:=by rw [Nat.succ_mul,e1]
 have h1:=h (2*c) (by omega) (by omega);have h2:=h (2*c+1) (by omega) (by omega);rw [e1,Nat.min_eq_left (by omega)] at h1;rw [e2,Nat.min_eq_right (by omega)] at h2;exact ⟨h1,h2⟩
theorem Rest.one {l:List Dem} {z a c n:Nat} (h:Rest l z a n) (ha:a=c*(2*z)) (hn:n<=a+z):Srt l a n:=by
 by_cases h0:a<n
 ·have e1:2*c*z=a:=by rw [ha,←Nat.mul_assoc,Nat.mul_comm c 2]
  have h1:=h (2*c) (by omega) (by omega);rw [e1,Nat.min_eq_right (by omega)] at h1;exact h1
 exact Gk l a n (by omega)
theorem Rest.next {l l':List Dem} {z a b n:Nat} (h:Rest l z a n) (hs:Same9 l l' a b) (hab:a<=b):Rest l' z b n:=fun d h1 h2=>(h d (by omega) h2).out hs (.inr h1)
theorem Rest.all {l:List Dem} {z n:Nat} (h:Rest l z 0 n) (hz:n<=z):Srt l 0 n:=by
 by_cases h0:0<n
 ·have h1:=h 0 (by omega) (by omega);rw [Nat.zero_mul,Nat.min_eq_right (by omega)] at h1;exact h1
 exact Gk l 0 n (by omega)
end Go.Proofs.YtcgpghifhehlhaaGreatDoor
end
namespace Go.Proofs.YtcgpghifhehlhaaGreatDoor
open Go Go.RowKit Go.Proofs.Tryz
theorem Il (n:Nat) (h:n<18446744073709551616):IntKind.u64.wrap (n:Int)=n:=by rw [IntKind.wrap_u64];omega
theorem GX (n:Nat):((n:Nat):Int).fdiv (2^min 1 IntKind.u64.bits)=((n/2:Nat):Int):=by
 rw [show (2:Int)^min 1 IntKind.u64.bits=2 by decide,Int.fdiv_eq_ediv_of_nonneg _ (by decide)];norm_cast
theorem Gh {f:Nat->Dem} {a m b:Nat} (h:a=m∨m=b∨b<=a):f=s0 f a m b:=by
 funext p;unfold s0;repeat' split
 all_goals first|omega|rfl|(congr 1;omega)
theorem FO {l:List Dem} {a b c:Nat} (h1:Srt l a b) (h2:Srt l b c) (h:b<=a∨c<=b):Srt l a c:=fun p q h3 h4 h5=>by
 rcases h with h|h
 ·exact h2 p q (by omega) h4 h5
 exact h1 p q h3 h4 (by omega)
def F14:=And.intro zS (And.intro tA (And.intro tu (And.intro xe (And.intro pj (xf)))))
theorem F15:type_of%F14:=F14
theorem Ge (d:Nat):∀(a m b:Nat) (H:Hp) (ny s N9:Nat) (hbH:∀y B,H y=some B->y<1000) (hN9:N9<=1000) (l:List Dem) (hN:l.length=N9) (h33:H 33=some ⟨s,88,4,N9,ar dn l⟩) (hd:b-a<=d) (ham:a<m) (hmb:m<b) (hb:b<=N9) (s1:Srt l a m) (s2:Srt l m b),
  dk prog 148 [.one (.own 33 s N9 4),.one (.lit (.int .i64 a)),.one (.lit (.int .i64 m)),.one (.lit (.int .i64 b)),.one eg] H ny (fun res H' _=>∃l2,res= .tup []/\(Same9 l l2 a b/\Srt l2 a b)/\H'=Fz H s N9 l2):=by
 refine Nat.strongRecOn d ?_;intro d ih a m b H ny s N9 hbH hN9 l hN h33 hd ham hmb hb s1 s2;have ih:∀d2,d2<b-a->_:=fun d2 h9=>ih d2 (by omega)
 refine fm 1000 func148 rfl (by decide) (N:=220) rfl (by simp) (Rl:=[]) rfl fun en k0=>?_
 by_cases hm1:(m:Int)-(a:Int)=1
 ·refine awN ?_;simp only [F15,seval,hm1];repeat refine ob ?_
  refine awT ?_;refine awN ?_;simp only [F15,seval,hm1];repeat refine ob ?_
  refine awN ?_;simp only [F15,seval,hm1];repeat refine ob ?_
  refine aE H [0,1,2,3,4,10,11] [33] (eD hbH (fun x h1 h2=>by (try simp only [aj]);repeat rw [if_neg (by omega)]) _) ?_;try simp only [aq,F15,seval,hm1]
  repeat' first|apply awS|apply awB
  refine aB (fun n st=>∃i j nx,m<=i/\i<=j/\j<=b/\i<=b/\n=j-i/\(∀q,a+1<=q->q<i->klt (at9 l q) (at9 l a))/\(∀q,j<=q->q<b->¬klt (at9 l q) (at9 l a))/\st=⟨mkT [(0,.val (.one (.own 33 s N9 4))),(1,one (.int .i64 a)),(2,one (.int .i64 m)),(3,one (.int .i64 b)),(4,.val (.one eg)),(10,one (.int .i64 i)),(11,one (.int .i64 j))],bW H [(33,⟨s,88,4,N9,ar dn l⟩)],nx,1000⟩) (b-m) ⟨m,b,_,by omega,by omega,by omega,by omega,rfl,fun q h3 h4=>by omega,fun q h3 h4=>by omega,by simp only [F15,seval,h33];rfl⟩ ?_;rintro n0 st ⟨i,j,nx0,hmi,hij,hjb,hib,rfl,hlo,hge,rfl⟩;by_cases hij0:(i:Int)<(j:Int)
  ·refine awN ?_;simp only [F15,seval,hm1,hij0];repeat refine ob ?_
   refine awT ?_;refine awK ?_;simp only [F15,seval];obtain ⟨s9,hs9⟩:∃x,x=i+j:=⟨_,rfl⟩;have zs:(i:Int)+(j:Int)=(s9:Int):=by omega
   obtain ⟨h9,hh9⟩:∃x,x=s9/2:=⟨_,rfl⟩;have wu:=Il s9 (by omega);have fd:=GX s9;rw [←hh9] at fd;refine awN ?_;simp only [F15,seval,hm1,hij0,zs,wu,fd];repeat refine ob ?_
   have hap:=aO AF l h9 (by omega);have haq:=aO AF l a (by omega);rw [←dx (by omega)] at hap;rw [←dx (by omega)] at haq;have hln:=aS AF l;rw [hN] at hln;obtain ⟨x9,hx9⟩:∃x,at9 l h9=x:=⟨_,rfl⟩;obtain ⟨y9,hy9⟩:∃x,at9 l a=x:=⟨_,rfl⟩;rw [hx9] at hap;rw [hy9] at haq;have hC:=B5 x9 y9;have hkl:=FN x9 y9;simp only [dn] at hap haq hC;by_cases hk:FX x9 y9<0
   ·refine awD (scT 0 9 (scq [18,21] .nil)) [0,0,0,0,0,0,0,0,0,0,0] ?_;simp only [F15,seval,hm1,hij0,hk,hap,haq,hln,eg];repeat refine ob ?_
    refine ⟨_,hC,rfl,?_⟩;try simp only [aq,F15,seval,hm1,hij0,hk,hap,haq,hln,eg]
    repeat refine ob ?_
    refine awT ?_;refine awN ?_;simp only [F15,seval,hm1,hij0,hk];repeat refine ob ?_
    repeat refine ob ?_
    have hkx:klt (at9 l h9) (at9 l a):=by rw [hx9,hy9];exact hkl.1 hk
    refine ⟨_,bE H [0,1,2,3,4,10,11] [33] (eD hbH (fun x h1 h2=>by (try simp only [aj]);repeat rw [if_neg (by omega)]) _),j-(h9+1),by omega,h9+1,j,?na8,by omega,by omega,by omega,by omega,rfl,fun q h3 h4=>IC (Fx s2 (by omega) (by omega) (by omega)) hkx,hge,?st8⟩;case st8=>(simp only [F15,seval];first|rfl|(simp;done))
   refine awD (scT 0 9 (scq [18,21] .nil)) [0,0,0,0,0,0,0,0,0,0,0] ?_;simp only [F15,seval,hm1,hij0,hk,hap,haq,hln,eg];repeat refine ob ?_
   refine ⟨_,hC,rfl,?_⟩;try simp only [aq,F15,seval,hm1,hij0,hk,hap,haq,hln,eg]
   repeat refine ob ?_
   refine awF ?_;refine awN ?_;simp only [F15,seval,hm1,hij0,hk];repeat refine ob ?_
   repeat refine ob ?_
   have hkx:¬klt (at9 l h9) (at9 l a):=by rw [hx9,hy9];exact fun h=>hk (hkl.2 h)
   refine ⟨_,bE H [0,1,2,3,4,10,11] [33] (eD hbH (fun x h1 h2=>by (try simp only [aj]);repeat rw [if_neg (by omega)]) _),h9-i,by omega,i,h9,?na11,by omega,by omega,by omega,by omega,rfl,hlo,fun q h3 h4=>rm hkx (Fx s2 (by omega) h3 h4),?st11⟩;case st11=>(simp only [F15,seval];first|rfl|(simp;done))
  refine awN ?_;simp only [F15,seval,hm1,hij0];repeat refine ob ?_
  refine awF ?_;refine awQ ?_;simp only [F15,seval];refine awN ?_;simp only [F15,seval,hm1,hij0];repeat refine ob ?_
  obtain ⟨i1,hi1⟩:∃x,x=i-1:=⟨_,rfl⟩;have zi1:(i:Int)-1=(i1:Int):=by omega
  refine aE H [0,1,2,3,4,10,13] [33] (eD hbH (fun x h1 h2=>by (try simp only [aj]);repeat rw [if_neg (by omega)]) _) ?_;try simp only [aq,F15,seval,hm1,hij0]
  repeat' first|apply awS|apply awB
  refine aB (fun n st=>∃k l2 nx,a<=k/\k<=i-1/\n=i-1-k/\l2.Perm l/\(∀p,at9 l2 p=upF l a k p)/\st=⟨mkT [(0,.val (.one (.own 33 s N9 4))),(1,one (.int .i64 a)),(2,one (.int .i64 m)),(3,one (.int .i64 b)),(4,.val (.one eg)),(10,one (.int .i64 i)),(13,one (.int .i64 k))],bW H [(33,⟨s,88,4,N9,ar dn l2⟩)],nx,1000⟩) (i-1-a) ⟨a,l,_,by omega,by omega,rfl,List.Perm.refl _,Ha l a,by simp only [F15,seval];rfl⟩ ?_;rintro n1 st ⟨k,l2,nx1,hak,hki,rfl,hpm,hup,rfl⟩;by_cases hki1:(k:Int)<(i1:Int)
  ·refine awN ?_;simp only [F15,seval,hm1,hij0,zi1,hki1];repeat refine ob ?_
   refine awT ?_;refine awK ?_;simp only [F15,seval];obtain ⟨q,hq⟩:∃x,x=k+1:=⟨_,rfl⟩;have zq:(k:Int)+1=(q:Int):=by omega
   have hlN:l2.length=N9:=hpm.length_eq.trans hN;have hll:l2.length=N9:=hlN;have hpl:k<l2.length:=by omega
   have hql:q<l2.length:=by omega
   have hap:=aO AF l2 k hpl;have haq:=aO AF l2 q hql;rw [←dx hpl] at hap;rw [←dx hql] at haq;obtain ⟨x9,hx9⟩:∃x,at9 l2 k=x:=⟨_,rfl⟩;obtain ⟨y9,hy9⟩:∃x,at9 l2 q=x:=⟨_,rfl⟩;rw [hx9] at hap;rw [hy9] at haq;have hln:=aS AF l2;rw [hll] at hln;have hs1:=n5 l2 k y9 hpl;have hs2:=n5 l2 q x9 hql;have hs3:=n5 (l2.set k y9) q x9 (by simpa using hql);have hs4:=n5 (l2.set q x9) k y9 (by simpa using hpl);have hl1:=aS AF (l2.set k y9);have hl2:=aS AF (l2.set q x9);rw [List.length_set,hll] at hl1 hl2;have hcm:(l2.set q x9).set k y9=(l2.set k y9).set q x9:=List.set_comm _ _ (by omega);have hsw:(l2.set k y9).set q x9=swd l2 k q:=by rw [←hx9,←hy9];rfl
   rw [hcm] at hs4;rw [hsw] at hs3 hs4;have hgp:∀z,(ar dn (l2.set k z)).length=N9*4:=fun z=>by rw [aS AF,List.length_set,hll]
   simp only [dn] at hap haq hs1 hs2 hs3 hs4;refine awD (scT 0 15 (scq [30,33,34] .nil)) [0,0,0,0,0,0,0,0,0,0,0,0,0,0,0,0,0,0] ?_;simp only [F15,seval,hm1,hij0,zi1,hki1,zq,hap,haq,hln,hs1,hs2,hs3,hs4,hl1,hl2];repeat refine ob ?_
   refine awN ?_;simp only [F15,seval,hm1,hij0,zi1,hki1,zq];repeat refine ob ?_
   repeat refine ob ?_
   refine ⟨_,bE H [0,1,2,3,4,10,13] [33] (eD hbH (fun x h1 h2=>by (try simp only [aj]);repeat rw [if_neg (by omega)]) _),i-1-q,by omega,q,swd l2 k q,?na17,by omega,by omega,rfl,(FM hpl hql).trans hpm,?up17,?st17⟩;case up17=>(rw [hq];exact Hz hak (by omega) hup)
   case st17=>(simp only [F15,seval];first|rfl|(simp;done))
  refine awN ?_;simp only [F15,seval,hm1,hij0,zi1,hki1];repeat refine ob ?_
  refine awF ?_;refine awQ ?_;simp only [F15,seval];have hk9:k=i-1:=by omega
  refine awX ?_;simp only [F15,seval];exact ⟨l2,⟨Ij hpm hup (by omega) (by omega),IP (by omega) ⟨by omega,by omega⟩ (by rw [show a+1=m by omega];exact s2) hlo (fun q h3 h4=>hge q (by omega) h4) (by rw [←hk9];exact hup)⟩,rfl⟩
 refine awN ?_;simp only [F15,seval,hm1];repeat refine ob ?_
 refine awF ?_;refine awK ?_;simp only [F15,seval];by_cases hb1:(b:Int)-(m:Int)=1
 ·refine awN ?_;simp only [F15,seval,hm1,hb1];repeat refine ob ?_
  refine awT ?_;refine awN ?_;simp only [F15,seval,hm1,hb1];repeat refine ob ?_
  refine awN ?_;simp only [F15,seval,hm1,hb1];repeat refine ob ?_
  refine aE H [0,1,2,3,4,14,15] [33] (eD hbH (fun x h1 h2=>by (try simp only [aj]);repeat rw [if_neg (by omega)]) _) ?_;try simp only [aq,F15,seval,hm1,hb1]
  repeat' first|apply awS|apply awB
  refine aB (fun n st=>∃i j nx,a<=i/\i<=j/\j<=m/\n=j-i/\(∀q,a<=q->q<i->¬klt (at9 l m) (at9 l q))/\(∀q,j<=q->q<m->klt (at9 l m) (at9 l q))/\st=⟨mkT [(0,.val (.one (.own 33 s N9 4))),(1,one (.int .i64 a)),(2,one (.int .i64 m)),(3,one (.int .i64 b)),(4,.val (.one eg)),(14,one (.int .i64 i)),(15,one (.int .i64 j))],bW H [(33,⟨s,88,4,N9,ar dn l⟩)],nx,1000⟩) (m-a) ⟨a,m,_,by omega,by omega,by omega,rfl,fun q h3 h4=>by omega,fun q h3 h4=>by omega,by simp only [F15,seval,h33];rfl⟩ ?_;rintro n2 st ⟨i,j,nx0,hai,hij,hjm,rfl,hlo,hge,rfl⟩;by_cases hij0:(i:Int)<(j:Int)
  ·refine awN ?_;simp only [F15,seval,hm1,hb1,hij0];repeat refine ob ?_
   refine awT ?_;refine awK ?_;simp only [F15,seval];obtain ⟨s9,hs9⟩:∃x,x=i+j:=⟨_,rfl⟩;have zs:(i:Int)+(j:Int)=(s9:Int):=by omega
   obtain ⟨h9,hh9⟩:∃x,x=s9/2:=⟨_,rfl⟩;have wu:=Il s9 (by omega);have fd:=GX s9;rw [←hh9] at fd;refine awN ?_;simp only [F15,seval,hm1,hb1,hij0,zs,wu,fd];repeat refine ob ?_
   have hap:=aO AF l m (by omega);have haq:=aO AF l h9 (by omega);rw [←dx (by omega)] at hap;rw [←dx (by omega)] at haq;have hln:=aS AF l;rw [hN] at hln;obtain ⟨x9,hx9⟩:∃x,at9 l m=x:=⟨_,rfl⟩;obtain ⟨y9,hy9⟩:∃x,at9 l h9=x:=⟨_,rfl⟩;rw [hx9] at hap;rw [hy9] at haq;have hC:=B5 x9 y9;have hkl:=FN x9 y9;simp only [dn] at hap haq hC;by_cases hk:FX x9 y9<0
   ·refine awD (scT 0 9 (scq [18,21,23] .nil)) [0,0,0,0,0,0,0,0,0,0,0,0] ?_;simp only [F15,seval,hm1,hb1,hij0,hk,hap,haq,hln,eg];repeat refine ob ?_
    refine ⟨_,hC,rfl,?_⟩;try simp only [aq,F15,seval,hm1,hb1,hij0,hk,hap,haq,hln,eg]
    repeat refine ob ?_
    refine awF ?_;refine awN ?_;simp only [F15,seval,hm1,hb1,hij0,hk];repeat refine ob ?_
    repeat refine ob ?_
    have hkx:klt (at9 l m) (at9 l h9):=by rw [hx9,hy9];exact hkl.1 hk
    refine ⟨_,bE H [0,1,2,3,4,14,15] [33] (eD hbH (fun x h1 h2=>by (try simp only [aj]);repeat rw [if_neg (by omega)]) _),h9-i,by omega,i,h9,?na28,by omega,by omega,by omega,rfl,hlo,fun q h3 h4=>IN hkx (Fx s1 (by omega) h3 h4),?st28⟩;case st28=>(simp only [F15,seval];first|rfl|(simp;done))
   refine awD (scT 0 9 (scq [18,21,23] .nil)) [0,0,0,0,0,0,0,0,0,0,0,0] ?_;simp only [F15,seval,hm1,hb1,hij0,hk,hap,haq,hln,eg];repeat refine ob ?_
   refine ⟨_,hC,rfl,?_⟩;try simp only [aq,F15,seval,hm1,hb1,hij0,hk,hap,haq,hln,eg]
   repeat refine ob ?_
   refine awT ?_;refine awN ?_;simp only [F15,seval,hm1,hb1,hij0,hk];repeat refine ob ?_
   repeat refine ob ?_
   have hkx:¬klt (at9 l m) (at9 l h9):=by rw [hx9,hy9];exact fun h=>hk (hkl.2 h)
   refine ⟨_,bE H [0,1,2,3,4,14,15] [33] (eD hbH (fun x h1 h2=>by (try simp only [aj]);repeat rw [if_neg (by omega)]) _),j-(h9+1),by omega,h9+1,j,?na31,by omega,by omega,by omega,rfl,fun q h3 h4=>rm (Fx s1 h3 (by omega) (by omega)) hkx,hge,?st31⟩;case st31=>(simp only [F15,seval];first|rfl|(simp;done))
  refine awN ?_;simp only [F15,seval,hm1,hb1,hij0];repeat refine ob ?_
  refine awF ?_;refine awQ ?_;simp only [F15,seval];refine awN ?_;simp only [F15,seval,hm1,hb1,hij0];repeat refine ob ?_
  refine aE H [0,1,2,3,4,14,17] [33] (eD hbH (fun x h1 h2=>by (try simp only [aj]);repeat rw [if_neg (by omega)]) _) ?_;try simp only [aq,F15,seval,hm1,hb1,hij0]
  repeat' first|apply awS|apply awB
  refine aB (fun n st=>∃k l2 nx,i<=k/\k<=m/\n=k-i/\l2.Perm l/\(∀p,at9 l2 p=dnF l m k p)/\st=⟨mkT [(0,.val (.one (.own 33 s N9 4))),(1,one (.int .i64 a)),(2,one (.int .i64 m)),(3,one (.int .i64 b)),(4,.val (.one eg)),(14,one (.int .i64 i)),(17,one (.int .i64 k))],bW H [(33,⟨s,88,4,N9,ar dn l2⟩)],nx,1000⟩) (m-i) ⟨m,l,_,by omega,by omega,rfl,List.Perm.refl _,Hc l m,by simp only [F15,seval];rfl⟩ ?_;rintro n3 st ⟨k,l2,nx1,hik,hkm,rfl,hpm,hup,rfl⟩;by_cases hki1:(i:Int)<(k:Int)
  ·refine awN ?_;simp only [F15,seval,hm1,hb1,hij0,hki1];repeat refine ob ?_
   refine awT ?_;refine awK ?_;simp only [F15,seval];have hlN:l2.length=N9:=hpm.length_eq.trans hN;obtain ⟨q,hq⟩:∃q,k=q+1:=⟨k-1,by omega⟩;have zq:(k:Int)-1=(q:Int):=by omega
   have hll:l2.length=N9:=hlN;have hpl:k<l2.length:=by omega
   have hql:q<l2.length:=by omega
   have hap:=aO AF l2 k hpl;have haq:=aO AF l2 q hql;rw [←dx hpl] at hap;rw [←dx hql] at haq;obtain ⟨x9,hx9⟩:∃x,at9 l2 k=x:=⟨_,rfl⟩;obtain ⟨y9,hy9⟩:∃x,at9 l2 q=x:=⟨_,rfl⟩;rw [hx9] at hap;rw [hy9] at haq;have hln:=aS AF l2;rw [hll] at hln;have hs1:=n5 l2 k y9 hpl;have hs2:=n5 l2 q x9 hql;have hs3:=n5 (l2.set k y9) q x9 (by simpa using hql);have hs4:=n5 (l2.set q x9) k y9 (by simpa using hpl);have hl1:=aS AF (l2.set k y9);have hl2:=aS AF (l2.set q x9);rw [List.length_set,hll] at hl1 hl2;have hcm:(l2.set q x9).set k y9=(l2.set k y9).set q x9:=List.set_comm _ _ (by omega);have hsw:(l2.set k y9).set q x9=swd l2 k q:=by rw [←hx9,←hy9];rfl
   rw [hcm] at hs4;rw [hsw] at hs3 hs4;have hgp:∀z,(ar dn (l2.set k z)).length=N9*4:=fun z=>by rw [aS AF,List.length_set,hll]
   simp only [dn] at hap haq hs1 hs2 hs3 hs4;refine awD (scT 0 15 (scq [30,33,34] .nil)) [0,0,0,0,0,0,0,0,0,0,0,0,0,0,0,0,0,0] ?_;simp only [F15,seval,hm1,hb1,hij0,hki1,zq,hap,haq,hln,hs1,hs2,hs3,hs4,hl1,hl2];repeat refine ob ?_
   refine awN ?_;simp only [F15,seval,hm1,hb1,hij0,hki1,zq];repeat refine ob ?_
   repeat refine ob ?_
   refine ⟨_,bE H [0,1,2,3,4,14,17] [33] (eD hbH (fun x h1 h2=>by (try simp only [aj]);repeat rw [if_neg (by omega)]) _),q-i,by omega,q,swd l2 k q,?na37,by omega,by omega,rfl,(FM hpl hql).trans hpm,?up37,?st37⟩;case up37=>(have h9:=HJ (by omega) (by omega) (by omega) hup;rwa [show k-1=q by omega] at h9)
   case st37=>(simp only [F15,seval];first|rfl|(simp;done))
  refine awN ?_;simp only [F15,seval,hm1,hb1,hij0,hki1];repeat refine ob ?_
  refine awF ?_;refine awQ ?_;simp only [F15,seval];have hk9:k=i:=by omega
  subst hk9;refine awX ?_;simp only [F15,seval];exact ⟨l2,⟨Ik hpm hup (by omega) (by omega) (by omega),by rw [show b=m+1 by omega];exact IQ ⟨by omega,by omega⟩ s1 hlo (fun q h3 h4=>hge q (by omega) h4) hup⟩,rfl⟩
 refine awN ?_;simp only [F15,seval,hm1,hb1];repeat refine ob ?_
 refine awF ?_;refine awK ?_;simp only [F15,seval];obtain ⟨s9,hs9⟩:∃x,x=a+b:=⟨_,rfl⟩;have zs:(a:Int)+(b:Int)=(s9:Int):=by omega
 obtain ⟨mid,hmid⟩:∃x,x=s9/2:=⟨_,rfl⟩;have wu:=Il s9 (by omega);have fd:=GX s9;rw [←hmid] at fd;refine awN ?_;simp only [F15,seval,hm1,hb1,zs,wu,fd];repeat refine ob ?_
 obtain ⟨n9,hn9⟩:∃x,x=mid+m:=⟨_,rfl⟩;have zn:(mid:Int)+(m:Int)=(n9:Int):=by omega
 refine awN ?_;simp only [F15,seval,hm1,hb1,zn];repeat refine ob ?_
 refine awN ?_;simp only [F15,seval,hm1,hb1];repeat refine ob ?_
 refine Gc (M:=fun st=>∃lo hi nx,((mid<m/\lo+b=n9/\hi=mid)∨(m<=mid/\lo=a/\hi=m))/\st=⟨mkT [(0,.val (.one (.own 33 s N9 4))),(1,one (.int .i64 a)),(2,one (.int .i64 m)),(3,one (.int .i64 b)),(4,.val (.one eg)),(18,one (.int .i64 mid)),(19,one (.int .i64 n9)),(20,one (.int .i64 lo)),(21,one (.int .i64 hi))],bW H [(33,⟨s,88,4,N9,ar dn l⟩)],nx,1000⟩) ?_ ?_
 ·by_cases hmm:(mid:Int)<(m:Int)
  ·refine awN ?_;simp only [F15,seval,hm1,hb1,hmm];repeat refine ob ?_
   refine awT ?_;obtain ⟨lo,hlo⟩:∃x,x=n9-b:=⟨_,rfl⟩;have zlo:(n9:Int)-(b:Int)=(lo:Int):=by omega
   refine awN ?_;simp only [F15,seval,hm1,hb1,hmm,zlo];repeat refine ob ?_
   refine awN ?_;simp only [F15,seval,hm1,hb1,hmm];repeat refine ob ?_
   intro zc zQ hM;refine be (bE H [0,1,2,3,4,18,19,20,21] [33] (eD hbH (fun x h1 h2=>by (try simp only [aj]);repeat rw [if_neg (by omega)]) _)) (hM _ ⟨lo,mid,?_,(by omega),?cs46⟩);case cs46=>(simp only [F15,seval,h33];rfl)
  refine awN ?_;simp only [F15,seval,hm1,hb1,hmm];repeat refine ob ?_
  refine awF ?_;refine awN ?_;simp only [F15,seval,hm1,hb1,hmm];repeat refine ob ?_
  refine awN ?_;simp only [F15,seval,hm1,hb1,hmm];repeat refine ob ?_
  intro zc zQ hM;refine be (bE H [0,1,2,3,4,18,19,20,21] [33] (eD hbH (fun x h1 h2=>by (try simp only [aj]);repeat rw [if_neg (by omega)]) _)) (hM _ ⟨a,m,?_,(by omega),?cs50⟩);case cs50=>(simp only [F15,seval,h33];rfl)
 rintro st ⟨lo,hi,nxa,hlh,rfl⟩;obtain ⟨p9,hp9⟩:∃x,x=n9-1:=⟨_,rfl⟩;have zp9:(n9:Int)-1=(p9:Int):=by omega
 refine awN ?_;simp only [F15,seval,hm1,hb1,zp9];repeat refine ob ?_
 refine aE H [0,1,2,3,4,18,19,20,21,22] [33] (eD hbH (fun x h1 h2=>by (try simp only [aj]);repeat rw [if_neg (by omega)]) _) ?_;try simp only [aq,F15,seval,hm1,hb1]
 repeat' first|apply awS|apply awB
 refine aB (fun n st=>∃start r nx,lo<=start/\start<=r/\r<=hi/\n=r-start/\(start=lo∨¬klt (at9 l (p9-(start-1))) (at9 l (start-1)))/\(r=hi∨klt (at9 l (p9-r)) (at9 l r))/\st=⟨mkT [(0,.val (.one (.own 33 s N9 4))),(1,one (.int .i64 a)),(2,one (.int .i64 m)),(3,one (.int .i64 b)),(4,.val (.one eg)),(18,one (.int .i64 mid)),(19,one (.int .i64 n9)),(20,one (.int .i64 start)),(21,one (.int .i64 r)),(22,one (.int .i64 p9))],bW H [(33,⟨s,88,4,N9,ar dn l⟩)],nx,1000⟩) (hi-lo) ⟨lo,hi,_,by omega,by omega,by omega,rfl,.inl rfl,.inl rfl,by simp only [F15,seval];rfl⟩ ?_;rintro n4 st ⟨start,r,nx4,hls,hsr,hrh,rfl,hcl,hch,rfl⟩;by_cases hsr0:(start:Int)<(r:Int)
 ·refine awN ?_;simp only [F15,seval,hm1,hb1,hsr0];repeat refine ob ?_
  refine awT ?_;refine awK ?_;simp only [F15,seval];obtain ⟨s9,hs9⟩:∃x,x=start+r:=⟨_,rfl⟩;have zs:(start:Int)+(r:Int)=(s9:Int):=by omega
  obtain ⟨c9,hc9⟩:∃x,x=s9/2:=⟨_,rfl⟩;have wu:=Il s9 (by omega);have fd:=GX s9;rw [←hc9] at fd;refine awN ?_;simp only [F15,seval,hm1,hb1,hsr0,zs,wu,fd];repeat refine ob ?_
  obtain ⟨pc,hpc⟩:∃x,x=p9-c9:=⟨_,rfl⟩;have zpc:(p9:Int)-(c9:Int)=(pc:Int):=by omega
  have hap:=aO AF l pc (by omega);have haq:=aO AF l c9 (by omega);rw [←dx (by omega)] at hap;rw [←dx (by omega)] at haq;have hln:=aS AF l;rw [hN] at hln;obtain ⟨x9,hx9⟩:∃x,at9 l pc=x:=⟨_,rfl⟩;obtain ⟨y9,hy9⟩:∃x,at9 l c9=x:=⟨_,rfl⟩;rw [hx9] at hap;rw [hy9] at haq;have hC:=B5 x9 y9;have hkl:=FN x9 y9;simp only [dn] at hap haq hC;by_cases hk:FX x9 y9<0
  ·refine awD (scT 0 11 (scq [22,25,27] .nil)) [0,0,0,0,0,0,0,0,0,0,0,0,0,0] ?_;simp only [F15,seval,hm1,hb1,hsr0,hk,zpc,hap,haq,hln,eg];repeat refine ob ?_
   refine ⟨_,hC,rfl,?_⟩;try simp only [aq,F15,seval,hm1,hb1,hsr0,hk,zpc,hap,haq,hln,eg]
   repeat refine ob ?_
   refine awF ?_;refine awN ?_;simp only [F15,seval,hm1,hb1,hsr0,hk];repeat refine ob ?_
   repeat refine ob ?_
   have hkx:klt (at9 l (p9-c9)) (at9 l c9):=by rw [show p9-c9=pc by omega,hx9,hy9];exact hkl.1 hk
   refine ⟨_,bE H [0,1,2,3,4,18,19,20,21,22] [33] (eD hbH (fun x h1 h2=>by (try simp only [aj]);repeat rw [if_neg (by omega)]) _),c9-start,by omega,start,c9,?na57,by omega,by omega,by omega,rfl,hcl,.inr hkx,?st57⟩;case st57=>(simp only [F15,seval];first|rfl|(simp;done))
  refine awD (scT 0 11 (scq [22,25,27] .nil)) [0,0,0,0,0,0,0,0,0,0,0,0,0,0] ?_;simp only [F15,seval,hm1,hb1,hsr0,hk,zpc,hap,haq,hln,eg];repeat refine ob ?_
  refine ⟨_,hC,rfl,?_⟩;try simp only [aq,F15,seval,hm1,hb1,hsr0,hk,zpc,hap,haq,hln,eg]
  repeat refine ob ?_
  refine awT ?_;refine awN ?_;simp only [F15,seval,hm1,hb1,hsr0,hk];repeat refine ob ?_
  repeat refine ob ?_
  have hkx:¬klt (at9 l (p9-c9)) (at9 l c9):=by rw [show p9-c9=pc by omega,hx9,hy9];exact fun h=>hk (hkl.2 h)
  refine ⟨_,bE H [0,1,2,3,4,18,19,20,21,22] [33] (eD hbH (fun x h1 h2=>by (try simp only [aj]);repeat rw [if_neg (by omega)]) _),r-(c9+1),by omega,c9+1,r,?na60,by omega,by omega,by omega,rfl,.inr (by rw [Nat.add_sub_cancel];exact hkx),hch,?st60⟩;case st60=>(simp only [F15,seval];first|rfl|(simp;done))
 refine awN ?_;simp only [F15,seval,hm1,hb1,hsr0];repeat refine ob ?_
 refine awF ?_;refine awQ ?_;simp only [F15,seval];obtain ⟨e9,he9⟩:∃x,x=n9-start:=⟨_,rfl⟩;have ze:(n9:Int)-(start:Int)=(e9:Int):=by omega
 refine awN ?_;simp only [F15,seval,hm1,hb1,hsr0,ze];repeat refine ob ?_
 refine Gc (M:=fun st=>∃l1 nx,(Same9 l l1 start e9)/\(Srt l1 a start/\Srt l1 start mid/\Srt l1 mid e9/\Srt l1 e9 b/\∀p q,a<=p->p<mid->mid<=q->q<b->¬klt (at9 l1 q) (at9 l1 p))/\st=⟨mkT [(0,.val (.one (.own 33 s N9 4))),(1,one (.int .i64 a)),(2,one (.int .i64 m)),(3,one (.int .i64 b)),(4,.val (.one eg)),(18,one (.int .i64 mid)),(20,one (.int .i64 start)),(24,one (.int .i64 e9))],bW H [(33,⟨s,88,4,N9,ar dn l1⟩)],nx,1000⟩) ?_ ?_
 ·by_cases hsm:(start:Int)<(m:Int)
  ·by_cases hme:(m:Int)<(e9:Int)
   ·have hc1:(start=a∨e9=b)∨¬klt (at9 l e9) (at9 l (start-1)):=by
     rcases hcl with h3|h3
     ·left;omega
     by_cases h4:start=lo
     ·left;omega
     right;rwa [show p9-(start-1)=e9 by omega] at h3
    have hrs:r=start:=by omega
    have hc2:(start=m∨e9=m)∨klt (at9 l (e9-1)) (at9 l start):=by
     rcases hch with h3|h3
     ·left;omega
     right;rwa [hrs,show p9-start=e9-1 by omega] at h3
    refine awR [] [0,0,0,0,365,365,365,0] ?_;simp only [F15,seval,hm1,hb1,hsr0,hsm,hme];repeat refine ob ?_
    refine awT ?_;refine awR [191] [0,0,0,0,0,0] ?_;simp only [F15,seval,hm1,hb1,hsr0,hsm,hme];repeat refine ob ?_
    refine ⟨_,Hy start m e9 _ _ s N9 ?_ hN9 l hN ?_ (by omega) (by omega) (by omega),?_⟩
    ·intro x B hB;simp only [aj] at hB;repeat (split at hB;· omega)
     exact hbH x B hB
    ·simp only [aj];rfl
    rintro res H' nx' ⟨l1,rfl,⟨hp1,ha1⟩,rfl⟩;simp only [Fz];try simp only [aq,F15,seval,hm1,hb1,hsr0,hsm,hme]
    repeat refine ob ?_
    intro zc zQ hM;have hrot:at9 l1=s0 (at9 l) start m e9:=ha1;refine be (bE H [0,1,2,3,4,18,20,24] [33] (eD hbH (fun x h1 h2=>by (try simp only [aj]);repeat rw [if_neg (by omega)]) _)) (hM _ ⟨l1,?_,Ht hp1 hrot (by omega) (by omega),GK (mid:=mid) (n:=n9) (by omega) (by omega) (by omega) (by omega) (by omega) (by omega) (by omega) s1 s2 hc1 hc2 hrot,?cs64⟩);case cs64=>(simp only [F15,seval];rfl)
   have hc1:(start=a∨e9=b)∨¬klt (at9 l e9) (at9 l (start-1)):=by
    rcases hcl with h3|h3
    ·left;omega
    by_cases h4:start=lo
    ·left;omega
    right;rwa [show p9-(start-1)=e9 by omega] at h3
   have hrs:r=start:=by omega
   have hc2:(start=m∨e9=m)∨klt (at9 l (e9-1)) (at9 l start):=by
    rcases hch with h3|h3
    ·left;omega
    right;rwa [hrs,show p9-start=e9-1 by omega] at h3
   refine awR [] [0,0,0,0,365,365,365,0] ?_;simp only [F15,seval,hm1,hb1,hsr0,hsm,hme];repeat refine ob ?_
   refine awF ?_;refine awK ?_;simp only [F15,seval];intro zc zQ hM;have hrot:at9 l=s0 (at9 l) start m e9:=Gh (by omega);refine be (bE H [0,1,2,3,4,18,20,24] [33] (eD hbH (fun x h1 h2=>by (try simp only [aj]);repeat rw [if_neg (by omega)]) _)) (hM _ ⟨l,?_,Same9.refl _ _ _,GK (mid:=mid) (n:=n9) (by omega) (by omega) (by omega) (by omega) (by omega) (by omega) (by omega) s1 s2 hc1 hc2 hrot,?cs66⟩);case cs66=>(simp only [F15,seval];rfl)
  have hc1:(start=a∨e9=b)∨¬klt (at9 l e9) (at9 l (start-1)):=by
   rcases hcl with h3|h3
   ·left;omega
   by_cases h4:start=lo
   ·left;omega
   right;rwa [show p9-(start-1)=e9 by omega] at h3
  have hrs:r=start:=by omega
  have hc2:(start=m∨e9=m)∨klt (at9 l (e9-1)) (at9 l start):=by
   rcases hch with h3|h3
   ·left;omega
   right;rwa [hrs,show p9-start=e9-1 by omega] at h3
  refine awR [] [0,0,0,0,365,365,365,0] ?_;simp only [F15,seval,hm1,hb1,hsr0,hsm];repeat refine ob ?_
  refine awF ?_;refine awK ?_;simp only [F15,seval];intro zc zQ hM;have hrot:at9 l=s0 (at9 l) start m e9:=Gh (by omega);refine be (bE H [0,1,2,3,4,18,20,24] [33] (eD hbH (fun x h1 h2=>by (try simp only [aj]);repeat rw [if_neg (by omega)]) _)) (hM _ ⟨l,?_,Same9.refl _ _ _,GK (mid:=mid) (n:=n9) (by omega) (by omega) (by omega) (by omega) (by omega) (by omega) (by omega) s1 s2 hc1 hc2 hrot,?cs68⟩);case cs68=>(simp only [F15,seval];rfl)
 rintro st ⟨l1,nxb,hsm1,hcut,rfl⟩;obtain ⟨hg1,hg2,hg3,hg4,hg5⟩:=hcut;have hl1N:l1.length=N9:=hsm1.1.length_eq.trans hN;refine Gc (M:=fun st=>∃l2 nx,(Same9 l1 l2 a mid)/\(Srt l2 a mid)/\st=⟨mkT [(0,.val (.one (.own 33 s N9 4))),(1,one (.int .i64 a)),(2,one (.int .i64 m)),(3,one (.int .i64 b)),(4,.val (.one eg)),(18,one (.int .i64 mid)),(20,one (.int .i64 start)),(24,one (.int .i64 e9))],bW H [(33,⟨s,88,4,N9,ar dn l2⟩)],nx,1000⟩) ?_ ?_
 ·by_cases has:(a:Int)<(start:Int)
  ·by_cases hsd:(start:Int)<(mid:Int)
   ·refine awR [] [0,0,0,0,393,393,393,0] ?_;simp only [F15,seval,hm1,hb1,hsr0,has,hsd];repeat refine ob ?_
    refine awT ?_;refine awR [205] [0,0,0,0,0,0] ?_;simp only [F15,seval,hm1,hb1,hsr0,has,hsd];repeat refine ob ?_
    refine ⟨_,ih (mid-a) (by omega) a start mid _ _ s N9 ?_ hN9 l1 hl1N ?_ (Nat.le_refl _) (by omega) (by omega) (by omega) hg1 hg2,?_⟩
    ·intro x B hB;simp only [aj] at hB;repeat (split at hB;· omega)
     exact hbH x B hB
    ·simp only [aj];rfl
    rintro res H' nx' ⟨l2,rfl,⟨hp2,ha2⟩,rfl⟩;simp only [Fz];try simp only [aq,F15,seval,hm1,hb1,hsr0,has,hsd]
    repeat refine ob ?_
    intro zc zQ hM;refine be (bE H [0,1,2,3,4,18,20,24] [33] (eD hbH (fun x h1 h2=>by (try simp only [aj]);repeat rw [if_neg (by omega)]) _)) (hM _ ⟨l2,?_,hp2,ha2,?cs71⟩);case cs71=>(simp only [F15,seval];rfl)
   refine awR [] [0,0,0,0,393,393,393,0] ?_;simp only [F15,seval,hm1,hb1,hsr0,has,hsd];repeat refine ob ?_
   refine awF ?_;refine awK ?_;simp only [F15,seval];intro zc zQ hM;refine be (bE H [0,1,2,3,4,18,20,24] [33] (eD hbH (fun x h1 h2=>by (try simp only [aj]);repeat rw [if_neg (by omega)]) _)) (hM _ ⟨l1,?_,Same9.refl _ _ _,(FO hg1 hg2 (by omega)),?cs73⟩);case cs73=>(simp only [F15,seval];rfl)
  refine awR [] [0,0,0,0,393,393,393,0] ?_;simp only [F15,seval,hm1,hb1,hsr0,has];repeat refine ob ?_
  refine awF ?_;refine awK ?_;simp only [F15,seval];intro zc zQ hM;refine be (bE H [0,1,2,3,4,18,20,24] [33] (eD hbH (fun x h1 h2=>by (try simp only [aj]);repeat rw [if_neg (by omega)]) _)) (hM _ ⟨l1,?_,Same9.refl _ _ _,(FO hg1 hg2 (by omega)),?cs75⟩);case cs75=>(simp only [F15,seval];rfl)
 rintro st ⟨l2,nxc,hsm2,hs2m,rfl⟩;have hl2N:l2.length=N9:=hsm2.1.length_eq.trans hl1N;have hg3:=hg3.out hsm2 (.inr (Nat.le_refl _));have hg4:=hg4.out hsm2 (.inr (by omega));by_cases hde:(mid:Int)<(e9:Int)
 ·by_cases heb:(e9:Int)<(b:Int)
  ·refine awR [] [0,0,0,0,421,421,421,0] ?_;simp only [F15,seval,hm1,hb1,hsr0,hde,heb];repeat refine ob ?_
   refine awT ?_;refine awR [219] [0,0,0,0,0,0] ?_;simp only [F15,seval,hm1,hb1,hsr0,hde,heb];repeat refine ob ?_
   refine ⟨_,ih (b-mid) (by omega) mid e9 b _ _ s N9 ?_ hN9 l2 hl2N ?_ (Nat.le_refl _) (by omega) (by omega) (by omega) hg3 hg4,?_⟩
   ·intro x B hB;simp only [aj] at hB;repeat (split at hB;· omega)
    exact hbH x B hB
   ·simp only [aj];rfl
   rintro res H' nx' ⟨l3,rfl,⟨hp3,ha3⟩,rfl⟩;simp only [Fz];try simp only [aq,F15,seval,hm1,hb1,hsr0,hde,heb]
   repeat refine ob ?_
   have hdn:=Gd (by omega) (by omega) (by omega) (by omega) hsm1 hg5 hsm2 hs2m hp3 ha3;first|exact ⟨hdn,IM _ _ _⟩|exact ⟨l3,hdn,IM _ _ _⟩
  refine awR [] [0,0,0,0,421,421,421,0] ?_;simp only [F15,seval,hm1,hb1,hsr0,hde,heb];repeat refine ob ?_
  refine awF ?_;refine awK ?_;simp only [F15,seval];have hdn:=Gd (by omega) (by omega) (by omega) (by omega) hsm1 hg5 hsm2 hs2m (Same9.refl l2 mid b) (FO hg3 hg4 (by omega));exact ⟨l2,hdn,rfl⟩
 refine awR [] [0,0,0,0,421,421,421,0] ?_;simp only [F15,seval,hm1,hb1,hsr0,hde];repeat refine ob ?_
 refine awF ?_;refine awK ?_;simp only [F15,seval];have hdn:=Gd (by omega) (by omega) (by omega) (by omega) hsm1 hg5 hsm2 hs2m (Same9.refl l2 mid b) (FO hg3 hg4 (by omega));exact ⟨l2,hdn,rfl⟩
theorem HK (H:Hp) (ny s N9:Nat) (hbH:∀y B,H y=some B->y<1000) (hN9:N9<=1000) (l:List Dem) (hN:l.length=N9) (h33:H 33=some ⟨s,88,4,N9,ar dn l⟩):
  dk prog 103 [.one (.own 33 s N9 4),.one (.lit (.int .i64 N9)),.one eg] H ny (fun res H' _=>∃l2,res= .tup []/\(l2.Perm l/\Srt l2 0 N9)/\H'=Fz H s N9 l2):=by
 refine fm 1000 func103 rfl (by decide) (N:=63) rfl (by simp) (Rl:=[]) rfl fun en k0=>?_
 refine awN ?_;simp only [zT,seval];repeat refine ob ?_
 refine awN ?_;simp only [zT,seval];repeat refine ob ?_
 refine aE H [0,1,2,6,7,8] [33] (eD hbH (fun x h1 h2=>by (try simp only [aj]);repeat rw [if_neg (by omega)]) _) ?_;try simp only [aq,zT,seval]
 repeat' first|apply awS|apply awB
 refine aB (fun n st=>∃c a b:Nat,∃l2 nx,a=c*20/\b=a+20/\a<=N9/\n=N9-a/\l2.Perm l/\Upto l2 20 a/\st=⟨mkT [(0,.val (.one (.own 33 s N9 4))),(1,one (.int .i64 N9)),(2,.val (.one eg)),(6,one (.int .i64 20)),(7,one (.int .i64 a)),(8,one (.int .i64 b))],bW H [(33,⟨s,88,4,N9,ar dn l2⟩)],nx,1000⟩) (N9) ⟨0,0,20,l,_,by omega,by omega,by omega,rfl,List.Perm.refl _,Ix l 20 (by decide),by simp only [zT,seval,h33];rfl⟩ ?_;rintro n0 st ⟨c,a,b,l2,nx0,ha,hb,han,rfl,hpm,hup,rfl⟩;by_cases hbn:(b:Int)<=(N9:Int)
 ·refine awN ?_;simp only [zT,seval,hbn];repeat refine ob ?_
  refine awT ?_;refine awK ?_;simp only [zT,seval];have hlN:l2.length=N9:=(hpm).length_eq.trans hN;refine awR [18] [0,0,0,0,0] ?_;simp only [zT,seval,hbn];repeat refine ob ?_
  refine ⟨_,GA a b _ _ s N9 ?_ hN9 l2 hlN ?_ (by omega) (by omega),?_⟩
  ·intro x B hB;simp only [aj] at hB;repeat (split at hB;· omega)
   exact hbH x B hB
  ·simp only [aj];rfl
  rintro res H' nx' ⟨l3,rfl,ha3,rfl⟩;simp only [Fz];try simp only [aq,zT,seval,hbn]
  repeat refine ob ?_
  refine awN ?_;simp only [zT,seval,hbn];repeat refine ob ?_
  obtain ⟨b2,hb2⟩:∃x,x=b+20:=⟨_,rfl⟩;have zb2:(b:Int)+(20:Int)=(b2:Int):=by omega
  refine awN ?_;simp only [zT,seval,hbn,zb2];repeat refine ob ?_
  repeat refine ob ?_
  refine ⟨_,bE H [0,1,2,6,7,8] [33] (eD hbH (fun x h1 h2=>by (try simp only [aj]);repeat rw [if_neg (by omega)]) _),N9-b,by omega,c+1,b,b2,l3,?na7,by rw [Nat.succ_mul];omega,by omega,by omega,rfl,(ha3.1.1).trans hpm,Upto.add (by decide) hup ha hb ha3.1 ha3.2,?st7⟩;case st7=>(simp only [zT,seval];first|rfl|(simp;done))
 refine awN ?_;simp only [zT,seval,hbn];repeat refine ob ?_
 refine awF ?_;refine awQ ?_;simp only [zT,seval];have hlN:l2.length=N9:=(hpm).length_eq.trans hN;refine awR [27] [0,0,0,0,0] ?_;simp only [zT,seval,hbn];repeat refine ob ?_
 refine ⟨_,GA a N9 _ _ s N9 ?_ hN9 l2 hlN ?_ (by omega) (by omega),?_⟩
 ·intro x B hB;simp only [aj] at hB;repeat (split at hB;· omega)
  exact hbH x B hB
 ·simp only [aj];rfl
 rintro res H' nx' ⟨l3,rfl,ha3,rfl⟩;simp only [Fz];try simp only [aq,zT,seval,hbn]
 repeat refine ob ?_
 refine aE H [0,1,2,6] [33] (eD hbH (fun x h1 h2=>by (try simp only [aj]);repeat rw [if_neg (by omega)]) _) ?_;try simp only [aq,zT,seval,hbn]
 repeat' first|apply awS|apply awB
 refine aB (fun n st=>∃z:Nat,∃l2 nx,20<=z/\z<=2*N9+20/\n=N9-z/\l2.Perm l/\Rest l2 z 0 N9/\st=⟨mkT [(0,.val (.one (.own 33 s N9 4))),(1,one (.int .i64 N9)),(2,.val (.one eg)),(6,one (.int .i64 z))],bW H [(33,⟨s,88,4,N9,ar dn l2⟩)],nx,1000⟩) (N9-20) ⟨20,l3,_,by omega,by omega,rfl,(ha3.1.1).trans hpm,hup.fin ha han (by omega) ha3.1 ha3.2,by simp only [zT,seval];first|rfl|(simp;done)⟩ ?_;rintro n1 st ⟨z,l5,nx1,hz,hzn,rfl,hpm5,hre5,rfl⟩;by_cases hzN:(z:Int)<(N9:Int)
 ·refine awN ?_;simp only [zT,seval,hbn,hzN];repeat refine ob ?_
  refine awT ?_;refine awK ?_;simp only [zT,seval];obtain ⟨b0,hb0⟩:∃x,x=2*z:=⟨_,rfl⟩;have zb0:(2:Int)*(z:Int)=(b0:Int):=by omega
  refine awN ?_;simp only [zT,seval,hbn,hzN,zb0];repeat refine ob ?_
  refine aE H [0,1,2,6,7,8] [33] (eD hbH (fun x h1 h2=>by (try simp only [aj]);repeat rw [if_neg (by omega)]) _) ?_;try simp only [aq,zT,seval,hbn,hzN]
  repeat' first|apply awS|apply awB
  refine aB (fun n st=>∃c a b:Nat,∃l3 nx,a=c*(2*z)/\b=a+2*z/\a<=N9/\n=N9-a/\l3.Perm l/\Upto l3 (2*z) a/\Rest l3 z a N9/\st=⟨mkT [(0,.val (.one (.own 33 s N9 4))),(1,one (.int .i64 N9)),(2,.val (.one eg)),(6,one (.int .i64 z)),(7,one (.int .i64 a)),(8,one (.int .i64 b))],bW H [(33,⟨s,88,4,N9,ar dn l3⟩)],nx,1000⟩) (N9) ⟨0,0,b0,l5,_,by omega,by omega,by omega,rfl,hpm5,Ix l5 (2*z) (by omega),hre5,by simp only [zT,seval];first|rfl|(simp;done)⟩ ?_;rintro n2 st ⟨c,a,b,l3,nx2,ha,hb,hai,rfl,hpm3,hup,hre,rfl⟩;by_cases hbn2:(b:Int)<=(N9:Int)
  ·refine awN ?_;simp only [zT,seval,hbn,hzN,hbn2];repeat refine ob ?_
   refine awT ?_;refine awK ?_;simp only [zT,seval];obtain ⟨m9,hm9⟩:∃x,x=a+z:=⟨_,rfl⟩;have zm9:(a:Int)+(z:Int)=(m9:Int):=by omega
   have hlN:l3.length=N9:=(hpm3).length_eq.trans hN;have hst:=hre.two ha (by omega) (by omega);rw [←hm9,show a+2*z=b by omega] at hst;refine awR [43] [0,0,0,0,0,0,0,0] ?_;simp only [zT,seval,hbn,hzN,hbn2,zm9];repeat refine ob ?_
   refine ⟨_,Ge (b-a) a m9 b _ _ s N9 ?_ hN9 l3 hlN ?_ (Nat.le_refl _) (by omega) (by omega) (by omega) hst.1 hst.2,?_⟩
   ·intro x B hB;simp only [aj] at hB;repeat (split at hB;· omega)
    exact hbH x B hB
   ·simp only [aj];rfl
   rintro res H' nx' ⟨l4,rfl,ha4,rfl⟩;simp only [Fz];try simp only [aq,zT,seval,hbn,hzN,hbn2,zm9]
   repeat refine ob ?_
   refine awN ?_;simp only [zT,seval,hbn,hzN,hbn2];repeat refine ob ?_
   obtain ⟨zz,hzz⟩:∃x,x=2*z:=⟨_,rfl⟩;have zzz:(2:Int)*(z:Int)=(zz:Int):=by omega
   obtain ⟨b2,hb2⟩:∃x,x=b+zz:=⟨_,rfl⟩;have zb2:(b:Int)+(zz:Int)=(b2:Int):=by omega
   refine awN ?_;simp only [zT,seval,hbn,hzN,hbn2,zzz,zb2];repeat refine ob ?_
   repeat refine ob ?_
   refine ⟨_,bE H [0,1,2,6,7,8] [33] (eD hbH (fun x h1 h2=>by (try simp only [aj]);repeat rw [if_neg (by omega)]) _),N9-b,by omega,c+1,b,b2,l4,?na16,by rw [Nat.succ_mul];omega,by omega,by omega,rfl,(ha4.1.1).trans hpm3,Upto.add (by omega) hup (by rw [ha]) (by omega) ha4.1 ha4.2,hre.next ha4.1 (by omega),?st16⟩;case st16=>(simp only [zT,seval];first|rfl|(simp;done))
  refine awN ?_;simp only [zT,seval,hbn,hzN,hbn2];repeat refine ob ?_
  refine awF ?_;refine awQ ?_;simp only [zT,seval];obtain ⟨m9,hm9⟩:∃x,x=a+z:=⟨_,rfl⟩;have zm9:(a:Int)+(z:Int)=(m9:Int):=by omega
  refine awN ?_;simp only [zT,seval,hbn,hzN,hbn2,zm9];repeat refine ob ?_
  by_cases hml:(m9:Int)<(N9:Int)
  ·refine awN ?_;simp only [zT,seval,hbn,hzN,hbn2,hml];repeat refine ob ?_
   refine awT ?_;have hlN:l3.length=N9:=(hpm3).length_eq.trans hN;have hst:=hre.last ha (by omega) (by omega);rw [←hm9] at hst;refine awR [60] [0,0,0,0,0,0] ?_;simp only [zT,seval,hbn,hzN,hbn2,hml];repeat refine ob ?_
   refine ⟨_,Ge (N9-a) a m9 N9 _ _ s N9 ?_ hN9 l3 hlN ?_ (Nat.le_refl _) (by omega) (by omega) (by omega) hst.1 hst.2,?_⟩
   ·intro x B hB;simp only [aj] at hB;repeat (split at hB;· omega)
    exact hbH x B hB
   ·simp only [aj];rfl
   rintro res H' nx' ⟨l4,rfl,ha4,rfl⟩;simp only [Fz];try simp only [aq,zT,seval,hbn,hzN,hbn2,hml]
   repeat refine ob ?_
   obtain ⟨z2,hz2⟩:∃x,x=z*2:=⟨_,rfl⟩;have zz2:(z:Int)*(2:Int)=(z2:Int):=by omega
   refine awN ?_;simp only [zT,seval,hbn,hzN,hbn2,hml,zz2];repeat refine ob ?_
   repeat refine ob ?_
   have hfin:Rest l4 (2*z) 0 N9:=hup.fin (by rw [ha]) hai (by omega) ha4.1 ha4.2;rw [show 2*z=z2 by omega] at hfin;refine ⟨_,bE H [0,1,2,6] [33] (eD hbH (fun x h1 h2=>by (try simp only [aj]);repeat rw [if_neg (by omega)]) _),N9-z2,by omega,z2,l4,?na22,by omega,by omega,rfl,(ha4.1.1).trans hpm3,hfin,?st22⟩;case st22=>(simp only [zT,seval];first|rfl|(simp;done))
  refine awN ?_;simp only [zT,seval,hbn,hzN,hbn2,hml];repeat refine ob ?_
  refine awF ?_;refine awK ?_;simp only [zT,seval];obtain ⟨z2,hz2⟩:∃x,x=z*2:=⟨_,rfl⟩;have zz2:(z:Int)*(2:Int)=(z2:Int):=by omega
  refine awN ?_;simp only [zT,seval,hbn,hzN,hbn2,hml,zz2];repeat refine ob ?_
  repeat refine ob ?_
  have hfin:Rest l3 (2*z) 0 N9:=hup.fin (by rw [ha]) hai (by omega) (Same9.refl _ _ _) (hre.one ha (by omega));rw [show 2*z=z2 by omega] at hfin;refine ⟨_,bE H [0,1,2,6] [33] (eD hbH (fun x h1 h2=>by (try simp only [aj]);repeat rw [if_neg (by omega)]) _),N9-z2,by omega,z2,l3,?na25,by omega,by omega,rfl,hpm3,hfin,?st25⟩;case st25=>(simp only [zT,seval];first|rfl|(simp;done))
 refine awN ?_;simp only [zT,seval,hbn,hzN];repeat refine ob ?_
 refine awF ?_;refine awQ ?_;simp only [zT,seval];exact ⟨l5,⟨hpm5,hre5.all (by omega)⟩,rfl⟩
def F16:=And.intro zS (tu)
theorem F17:type_of%F16:=F16
theorem Gn (H:Hp) (ny s N9:Nat) (hbH:∀y B,H y=some B->y<1000) (hN9:N9<=1000) (l:List Dem) (hN:l.length=N9) (h33:H 33=some ⟨s,88,4,N9,ar dn l⟩):
  dk prog 58 [.one (.own 33 s N9 4),.one eg] H ny (fun res H' _=>∃l2,res= .tup []/\(l2.Perm l/\Srt l2 0 N9)/\H'=Fz H s N9 l2):=by
 refine fm 1000 func58 rfl (by decide) (N:=9) rfl (by simp) (Rl:=[]) rfl fun en k0=>?_
 refine awR [8] [0,0,0,0,0] ?_;simp only [F17,seval];repeat refine ob ?_
 refine ⟨⟨_,h33,rfl⟩,?_⟩;refine ⟨_,HK _ _ s N9 hbH hN9 l hN h33,?_⟩;rintro res H' nx' ⟨l3,rfl,ha3,rfl⟩;try simp only [aq,F17,seval]
 repeat refine ob ?_
 first|rfl|exact ⟨l3,ha3,rfl⟩|exact ⟨ha3,rfl⟩|exact ha3|(refine ⟨l3,?_⟩;simp [ha3])|(trace_state;done)
end Go.Proofs.YtcgpghifhehlhaaGreatDoor
