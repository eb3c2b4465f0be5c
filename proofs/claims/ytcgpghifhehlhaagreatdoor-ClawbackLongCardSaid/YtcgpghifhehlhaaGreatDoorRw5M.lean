/- The reference: debt; walked by the abstract machine. -/
import Derived.Test.YtcgpghifhehlhaaGreatDoorGc2M
import Derived.Test.YtcgpghifhehlhaaGreatDoorLawM
import Derived.Test.YtcgpghifhehlhaaGreatDoorBl5M
set_option linter.unusedVariables false
set_option maxHeartbeats 8000000
set_option linter.unusedSimpArgs false
set_option linter.defProp false
namespace Go.Proofs.YtcgpghifhehlhaaGreatDoor
open Go Go.RowKit Go.Proofs.Tryz
def ii (o:Option (Nat×Nat)) (i j:Nat):Bool:=match o with
 |none=>false
 |some x=>decide (x.1≠i∨x.2≠j)
noncomputable def dbL (g:GGrp) (i:Nat) (h0:Int):List Leg->Nat->Int
 |[],_=>0
 |l::ls,j=>if cR g.ests l=false then 1 else if ii (lgD l g.debts 0) i j=true then 20 else if (cL g.ests l).holder≠h0 then 19 else dbL g i h0 ls (j+1)
noncomputable def dbS (g:GGrp) (i:Nat) (d:GDebt):Int:=
 if 8<d.legs.length then 2 else if aL (qOf d.whole)<0 then 7 else dbL g i (cL g.ests (d.legs.getD 0 (0,0))).holder d.legs 0
def F34:=And.intro zS (And.intro nN (And.intro KF (And.intro pm (And.intro pj (And.intro vd (And.intro u6 (And.intro tA (And.intro u7 (And.intro xe (And.intro xf (And.intro pk (And.intro tv (And.intro qO (And.intro tw (And.intro pl (And.intro tx (And.intro zZ (And.intro tz (And.intro xg (And.intro xh (And.intro yB (And.intro jS (xd)))))))))))))))))))))))
theorem F35:type_of%F34:=F34
theorem yX (g:GGrp) (i:Nat) (hi:i<g.debts.length) (hn:g.debts.length<=1000000000000) (hll:∀d∈g.debts,d.legs.length<=1000000000000) (h1:g.debts[i].whole.num.size<=500000000000) (h2:g.debts[i].whole.den.size<=500000000000):
  ch prog 37 [.agg (au g),.one (.lit (.int .i64 i))] (one (.int .i64 (dbS g i g.debts[i]))):=by
 have hat0:=aO dT g.debts i hi;have hin0':(i:Int)<(g.debts.length:Int):=by omega
 have hS:=KN g.debts[i].whole h1 h2;generalize g.debts[i]=d at *
 unfold dbS;refine bF func37 rfl (by decide) (N:=118) rfl (by simp) (R:=[.tmp 4]) rfl fun en k0=>?_
 refine awN ?_;simp only [F35,seval,au];refine awN ?_;simp only [F35,seval,hat0,cn];repeat refine ob ?_
 by_cases hlen:8<d.legs.length
 ·have hI:(8:Int)<(d.legs.length:Int):=by omega
  refine awN ?_;simp only [F35,seval,hI];refine awT ?_;refine awN ?_;simp only [F35,seval];refine awX ?_;simp only [F35,seval,hlen]
 have hI8:¬(8:Int)<(d.legs.length:Int):=by omega
 by_cases hq:aL (qOf d.whole)<0
 ·repeat' first|apply awS|apply awB
  refine awN ?_;simp only [F35,seval,hI8];refine awF ?_;refine awK ?_;simp only [F35,seval];refine awN ?_;simp only [F35,seval,hat0,cn];repeat refine ob ?_
  refine ⟨_,hS,rfl,?_⟩;simp only [aq,F35,seval,hq];refine awT ?_;refine awN ?_;simp only [F35,seval];refine awX ?_;simp only [F35,seval,hlen]
 refine awN ?_;simp only [F35,seval,hI8];refine awF ?_;refine awK ?_;simp only [F35,seval];refine awN ?_;simp only [F35,seval,hat0,cn];repeat refine ob ?_
 refine ⟨_,hS,rfl,?_⟩;simp only [aq,F35,seval,hq];refine awF ?_;refine awK ?_;simp only [F35,seval];refine awN ?_;simp only [F35,seval];simp only [hlen,if_false];refine aQ [1,2,5,6] [2] ?_;simp only [F35,seval];generalize hh0:(cL g.ests (d.legs.getD 0 (0,0))).holder=hd0;repeat' first|apply awS|apply awB
 refine aB (fun n st=>∃k nx,k<=d.legs.length/\n=d.legs.length-k/\dbL g i hd0 (d.legs.drop k) k=dbL g i hd0 d.legs 0/\(0<k->cR g.ests (d.legs.getD 0 (0,0))=true)/\st=⟨mkT [(1,one (.int .i64 i)),(2,.val (.one (.ptr 2 0 0))),(5,.val (.one (.sh 2 d.legs.length (ar f9 d.legs)))),(6,one (.int .i64 k))],mkH [(2,⟨0,28,2,1,au g⟩)],nx,0⟩) d.legs.length ⟨0,_,by omega,by omega,rfl,by omega,rfl⟩ ?_;rintro n st ⟨k,nx,hk,rfl,hL,h0,rfl⟩;by_cases hlt:k<d.legs.length
 ·have hI:(k:Int)<(d.legs.length:Int):=by omega
  have hI0:(0:Int)<(d.legs.length:Int):=by omega
  have hat:=aO cr d.legs k hlt;rw [List.drop_eq_getElem_cons hlt] at hL;have ht0:List.take 2 (ar f9 d.legs)=f9 (d.legs.getD 0 (0,0)):=by
   have h5:0<d.legs.length:=by omega
   have:=aO cr d.legs 0 h5;simp only [Nat.zero_mul,List.drop_zero] at this;rw [this,List.take_left' (cr _)];simp [List.getD,h5]
  have hlen0:2<=(ar f9 d.legs).length:=by rw [aS cr];omega
  have hk0:k=0->d.legs[k]=d.legs.getD 0 (0,0):=fun h=>by subst h;simp [List.getD,hlt]
  generalize d.legs[k]=l at *
  simp only [dbL] at hL;by_cases hin:cR g.ests l=true
  ·have hin':=hin;simp only [cR,Bool.and_eq_true,decide_eq_true_eq] at hin';obtain ⟨⟨⟨e1,e2⟩,e3⟩,e4⟩:=hin';have a1:=Jo de g.ests l.1 bM e1 e2;have hH1:=si g l hin;have hin0:cR g.ests (d.legs.getD 0 (0,0))=true:=by
    rcases Nat.eq_zero_or_pos k with h|h
    ·rw [←hk0 h];exact hin
    exact h0 h
   have hH2:=si g (d.legs.getD 0 (0,0)) hin0;rw [←hh0] at *
   generalize cL g.ests (d.legs.getD 0 (0,0))=cl0 at *
   generalize hcl1:cL g.ests l=cl1 at *
   generalize d.legs.getD 0 (0,0)=l0 at *
   have n1:¬l.1<0:=by omega
   have n2:¬(g.ests.length:Int)<=l.1:=by omega
   have n3:¬l.2<0:=by omega
   have n4:¬((g.ests.getD l.1.toNat bM).claims.length:Int)<=l.2:=by omega
   have hLg:=zR g l hn hll;cases hlg:lgD l g.debts 0
   ·rw [hlg] at hLg;simp only [lgR] at hLg;by_cases hne:cl1.holder=cl0.holder
    ·repeat' first|apply awS|apply awB
     refine awN ?_;simp only [F35,seval,hI];refine awT ?_;refine awK ?_;simp only [F35,seval];refine awD (scT 0 44 .nil) [0,0,0,0,0,0,0,80,80,80,80,80,80,80,80,80,0,0,102,102,102,102,102,102,0,0,118,118,118,118,118,118,118,118,118,118,118,118,118,118,118,118,118,0] ?_;simp only [F35,seval,hat,f9,n1,n2,n3,n4,a1,bh,au];repeat refine ob ?_
     refine awF ?_;refine awK ?_;simp only [F35,seval];refine awD (scT 0 11 (scq [22] (scT 12 7 .nil))) [0,0,0,0,0,0,0,0,0,0,0,0,0,0,0,0,0,0,0] ?_;simp only [F35,seval,hat,f9,ab ak,ab ai];repeat refine ob ?_
     refine ⟨_,hLg,rfl,?_⟩;simp only [aq,F35,seval];refine awR [] [0,0,191,191,191,191,198,198,198,191,0] ?_;simp only [F35,seval];refine awF ?_;refine awK ?_;simp only [F35,seval];refine awD (scT 0 5 (scT 7 4 (scq [10,13,22,25,27] .nil))) [0,0,0,0,0,0,0,0,0,0,0,0,0,0] ?_;simp only [F35,seval,hat,ht0,f9,ab ak,ab ai];repeat refine ob ?_
     refine ⟨_,hH1,rfl,?_⟩;simp only [aq,F35,seval,ab ak,ab ai,aA];repeat refine ob ?_
     refine ⟨_,hH2,rfl,?_⟩;simp only [F35,seval,hne,aA];refine awF ?_;refine awK ?_;simp only [F35,seval];refine awN ?_;simp only [F35,seval];repeat refine ob ?_
     refine ⟨_,aH [1,2,5,6] [2],d.legs.length-(k+1),by omega,k+1,nx,by omega,rfl,?_,fun _=>hin0,?_⟩
     ·rw [←hL];simp [hin,hlg,ii,hne]
     simp only [F35,seval];try rfl
    repeat' first|apply awS|apply awB
    refine awN ?_;simp only [F35,seval,hI];refine awT ?_;refine awK ?_;simp only [F35,seval];refine awD (scT 0 44 .nil) [0,0,0,0,0,0,0,80,80,80,80,80,80,80,80,80,0,0,102,102,102,102,102,102,0,0,118,118,118,118,118,118,118,118,118,118,118,118,118,118,118,118,118,0] ?_;simp only [F35,seval,hat,f9,n1,n2,n3,n4,a1,bh,au];repeat refine ob ?_
    refine awF ?_;refine awK ?_;simp only [F35,seval];refine awD (scT 0 11 (scq [22] (scT 12 7 .nil))) [0,0,0,0,0,0,0,0,0,0,0,0,0,0,0,0,0,0,0] ?_;simp only [F35,seval,hat,f9,ab ak,ab ai];repeat refine ob ?_
    refine ⟨_,hLg,rfl,?_⟩;simp only [aq,F35,seval];refine awR [] [0,0,191,191,191,191,198,198,198,191,0] ?_;simp only [F35,seval];refine awF ?_;refine awK ?_;simp only [F35,seval];refine awD (scT 0 5 (scT 7 4 (scq [10,13,22,25,27] .nil))) [0,0,0,0,0,0,0,0,0,0,0,0,0,0] ?_;simp only [F35,seval,hat,ht0,f9,ab ak,ab ai];repeat refine ob ?_
    refine ⟨_,hH1,rfl,?_⟩;simp only [aq,F35,seval,ab ak,ab ai,aA];repeat refine ob ?_
    refine ⟨_,hH2,rfl,?_⟩;simp only [F35,seval,hne,aA];refine awT ?_;refine awN ?_;simp only [F35,seval];have hR:dbL g i cl0.holder d.legs 0=19:=by rw [←hL];simp [hin,hlg,ii,hne]
    refine awX ?_;simp only [F35,seval,hR]
   rename_i x;obtain ⟨x1,x2⟩:=x;rw [hlg] at hLg;simp only [lgR] at hLg;by_cases q1:x1=i
   ·have q1':(x1:Int)=(i:Int):=by rw [q1]
    by_cases q2:x2=k
    ·have q2':(x2:Int)=(k:Int):=by rw [q2]
     by_cases hne:cl1.holder=cl0.holder
     ·repeat' first|apply awS|apply awB
      refine awN ?_;simp only [F35,seval,hI];refine awT ?_;refine awK ?_;simp only [F35,seval];refine awD (scT 0 44 .nil) [0,0,0,0,0,0,0,80,80,80,80,80,80,80,80,80,0,0,102,102,102,102,102,102,0,0,118,118,118,118,118,118,118,118,118,118,118,118,118,118,118,118,118,0] ?_;simp only [F35,seval,hat,f9,n1,n2,n3,n4,a1,bh,au];repeat refine ob ?_
      refine awF ?_;refine awK ?_;simp only [F35,seval];refine awD (scT 0 11 (scq [22] (scT 12 7 .nil))) [0,0,0,0,0,0,0,0,0,0,0,0,0,0,0,0,0,0,0] ?_;simp only [F35,seval,hat,f9,ab ak,ab ai];repeat refine ob ?_
      refine ⟨_,hLg,rfl,?_⟩;simp only [aq,F35,seval];refine awR [] [0,0,191,191,191,191,198,198,198,191,0] ?_;simp only [F35,seval,q1',q2'];refine awF ?_;refine awK ?_;simp only [F35,seval];refine awD (scT 0 5 (scT 7 4 (scq [10,13,22,25,27] .nil))) [0,0,0,0,0,0,0,0,0,0,0,0,0,0] ?_;simp only [F35,seval,hat,ht0,f9,ab ak,ab ai];repeat refine ob ?_
      refine ⟨_,hH1,rfl,?_⟩;simp only [aq,F35,seval,ab ak,ab ai,aA];repeat refine ob ?_
      refine ⟨_,hH2,rfl,?_⟩;simp only [F35,seval,hne,aA];refine awF ?_;refine awK ?_;simp only [F35,seval];refine awN ?_;simp only [F35,seval];repeat refine ob ?_
      refine ⟨_,aH [1,2,5,6] [2],d.legs.length-(k+1),by omega,k+1,nx,by omega,rfl,?_,fun _=>hin0,?_⟩
      ·rw [←hL];simp [hin,hlg,ii,q1,q2,hne]
      simp only [F35,seval];try rfl
     repeat' first|apply awS|apply awB
     refine awN ?_;simp only [F35,seval,hI];refine awT ?_;refine awK ?_;simp only [F35,seval];refine awD (scT 0 44 .nil) [0,0,0,0,0,0,0,80,80,80,80,80,80,80,80,80,0,0,102,102,102,102,102,102,0,0,118,118,118,118,118,118,118,118,118,118,118,118,118,118,118,118,118,0] ?_;simp only [F35,seval,hat,f9,n1,n2,n3,n4,a1,bh,au];repeat refine ob ?_
     refine awF ?_;refine awK ?_;simp only [F35,seval];refine awD (scT 0 11 (scq [22] (scT 12 7 .nil))) [0,0,0,0,0,0,0,0,0,0,0,0,0,0,0,0,0,0,0] ?_;simp only [F35,seval,hat,f9,ab ak,ab ai];repeat refine ob ?_
     refine ⟨_,hLg,rfl,?_⟩;simp only [aq,F35,seval];refine awR [] [0,0,191,191,191,191,198,198,198,191,0] ?_;simp only [F35,seval,q1',q2'];refine awF ?_;refine awK ?_;simp only [F35,seval];refine awD (scT 0 5 (scT 7 4 (scq [10,13,22,25,27] .nil))) [0,0,0,0,0,0,0,0,0,0,0,0,0,0] ?_;simp only [F35,seval,hat,ht0,f9,ab ak,ab ai];repeat refine ob ?_
     refine ⟨_,hH1,rfl,?_⟩;simp only [aq,F35,seval,ab ak,ab ai,aA];repeat refine ob ?_
     refine ⟨_,hH2,rfl,?_⟩;simp only [F35,seval,hne,aA];refine awT ?_;refine awN ?_;simp only [F35,seval];have hR:dbL g i cl0.holder d.legs 0=19:=by rw [←hL];simp [hin,hlg,ii,q1,q2,hne]
     refine awX ?_;simp only [F35,seval,hR]
    have q2':¬(x2:Int)=(k:Int):=by omega
    refine awN ?_;simp only [F35,seval,hI];refine awT ?_;refine awK ?_;simp only [F35,seval];refine awD (scT 0 44 .nil) [0,0,0,0,0,0,0,80,80,80,80,80,80,80,80,80,0,0,102,102,102,102,102,102,0,0,118,118,118,118,118,118,118,118,118,118,118,118,118,118,118,118,118,0] ?_;simp only [F35,seval,hat,f9,n1,n2,n3,n4,a1,bh,au];repeat refine ob ?_
    refine awF ?_;refine awK ?_;simp only [F35,seval];refine awD (scT 0 11 (scq [22] (scT 12 7 .nil))) [0,0,0,0,0,0,0,0,0,0,0,0,0,0,0,0,0,0,0] ?_;simp only [F35,seval,hat,f9,ab ak,ab ai];repeat refine ob ?_
    refine ⟨_,hLg,rfl,?_⟩;simp only [aq,F35,seval];refine awR [] [0,0,191,191,191,191,198,198,198,191,0] ?_;simp only [F35,seval,q1',q2'];refine awT ?_;refine awN ?_;simp only [F35,seval];have hR:dbL g i cl0.holder d.legs 0=20:=by rw [←hL];simp [hin,hlg,ii,q1,q2]
    refine awX ?_;simp only [F35,seval,hR]
   have q1':¬(x1:Int)=(i:Int):=by omega
   refine awN ?_;simp only [F35,seval,hI];refine awT ?_;refine awK ?_;simp only [F35,seval];refine awD (scT 0 44 .nil) [0,0,0,0,0,0,0,80,80,80,80,80,80,80,80,80,0,0,102,102,102,102,102,102,0,0,118,118,118,118,118,118,118,118,118,118,118,118,118,118,118,118,118,0] ?_;simp only [F35,seval,hat,f9,n1,n2,n3,n4,a1,bh,au];repeat refine ob ?_
   refine awF ?_;refine awK ?_;simp only [F35,seval];refine awD (scT 0 11 (scq [22] (scT 12 7 .nil))) [0,0,0,0,0,0,0,0,0,0,0,0,0,0,0,0,0,0,0] ?_;simp only [F35,seval,hat,f9,ab ak,ab ai];repeat refine ob ?_
   refine ⟨_,hLg,rfl,?_⟩;simp only [aq,F35,seval];refine awR [] [0,0,191,191,191,191,198,198,198,191,0] ?_;simp only [F35,seval,q1'];refine awT ?_;refine awN ?_;simp only [F35,seval];have hR:dbL g i cl0.holder d.legs 0=20:=by rw [←hL];simp [hin,hlg,ii,q1]
   refine awX ?_;simp only [F35,seval,hR]
  have hin':cR g.ests l=false:=by simpa using hin
  by_cases p1:l.1<0
  ·repeat' first|apply awS|apply awB
   refine awN ?_;simp only [F35,seval,hI];refine awT ?_;refine awK ?_;simp only [F35,seval];refine awD (scT 0 44 .nil) [0,0,0,0,0,0,0,80,80,80,80,80,80,80,80,80,0,0,102,102,102,102,102,102,0,0,118,118,118,118,118,118,118,118,118,118,118,118,118,118,118,118,118,0] ?_;simp only [F35,seval,hat,f9,p1,au];repeat refine ob ?_
   refine awT ?_;refine awN ?_;simp only [F35,seval];have hR:dbL g i hd0 d.legs 0=1:=by rw [←hL];simp [hin']
   refine awX ?_;simp only [F35,seval,hR]
  by_cases p2:(g.ests.length:Int)<=l.1
  ·repeat' first|apply awS|apply awB
   refine awN ?_;simp only [F35,seval,hI];refine awT ?_;refine awK ?_;simp only [F35,seval];refine awD (scT 0 44 .nil) [0,0,0,0,0,0,0,80,80,80,80,80,80,80,80,80,0,0,102,102,102,102,102,102,0,0,118,118,118,118,118,118,118,118,118,118,118,118,118,118,118,118,118,0] ?_;simp only [F35,seval,hat,f9,p1,p2,au];repeat refine ob ?_
   refine awT ?_;refine awN ?_;simp only [F35,seval];have hR:dbL g i hd0 d.legs 0=1:=by rw [←hL];simp [hin']
   refine awX ?_;simp only [F35,seval,hR]
  by_cases p3:l.2<0
  ·repeat' first|apply awS|apply awB
   refine awN ?_;simp only [F35,seval,hI];refine awT ?_;refine awK ?_;simp only [F35,seval];refine awD (scT 0 44 .nil) [0,0,0,0,0,0,0,80,80,80,80,80,80,80,80,80,0,0,102,102,102,102,102,102,0,0,118,118,118,118,118,118,118,118,118,118,118,118,118,118,118,118,118,0] ?_;simp only [F35,seval,hat,f9,p1,p2,p3,au];repeat refine ob ?_
   refine awT ?_;refine awN ?_;simp only [F35,seval];have hR:dbL g i hd0 d.legs 0=1:=by rw [←hL];simp [hin']
   refine awX ?_;simp only [F35,seval,hR]
  have a1:=Jo de g.ests l.1 bM (by omega) (by omega);have p4:((g.ests.getD l.1.toNat bM).claims.length:Int)<=l.2:=by
   simp only [cR,Bool.and_eq_false_iff,decide_eq_false_iff_not] at hin';omega
  refine awN ?_;simp only [F35,seval,hI];refine awT ?_;refine awK ?_;simp only [F35,seval];refine awD (scT 0 44 .nil) [0,0,0,0,0,0,0,80,80,80,80,80,80,80,80,80,0,0,102,102,102,102,102,102,0,0,118,118,118,118,118,118,118,118,118,118,118,118,118,118,118,118,118,0] ?_;simp only [F35,seval,hat,f9,p1,p2,p3,p4,a1,bh,au];repeat refine ob ?_
  refine awT ?_;refine awN ?_;simp only [F35,seval];have hR:dbL g i hd0 d.legs 0=1:=by rw [←hL];simp [hin']
  refine awX ?_;simp only [F35,seval,hR]
 obtain rfl:k=d.legs.length:=by omega
 have hI:¬(d.legs.length:Int)<(d.legs.length:Int):=by omega
 rw [List.drop_length] at hL;simp only [dbL] at hL;refine awN ?_;simp only [F35,seval,hI];refine awF ?_;refine awQ ?_;simp only [F35,seval];refine awN ?_;simp only [F35,seval];refine awX ?_;simp only [F35,seval,←hL]
noncomputable def f7:List GEst->Int
 |[]=>0
 |e::l=>if jc e≠0 then jc e else f7 l
noncomputable def fP (g:GGrp):List GDebt->Nat->Int
 |[],_=>0
 |d::l,i=>if dbS g i d≠0 then dbS g i d else fP g l (i+1)
noncomputable def nX (g:GGrp):Int:=if 8<g.ests.length∨16<g.debts.length then 2 else if f7 g.ests≠0 then f7 g.ests
 else if cM g.ests.length 0 g.ests=true then 19 else fP g g.debts 0
def b5 (g:GGrp):Prop:=(∀e∈g.ests,f6 e)/\(∀d∈g.debts,cO d.whole)/\∀d∈g.debts,d.legs.length<=1000000000000
def F36:=And.intro zS (And.intro Jy (And.intro KF (And.intro pj (And.intro vd (And.intro u6 (And.intro u7 (And.intro pk (And.intro tv (And.intro qO (And.intro tx (And.intro zZ (And.intro tz (And.intro tC (And.intro xh (xd)))))))))))))))
theorem F37:type_of%F36:=F36
theorem b6 (g:GGrp) (hg:b5 g):ch prog 15 [.agg (au g)] (one (.int .i64 (nX g))):=by
 obtain ⟨hge,hgd,hgl⟩:=hg;unfold nX;refine bF func15 rfl (by decide) (N:=87) rfl (by simp) (R:=[.tmp 2]) rfl fun en k0=>?_
 refine awN ?_;simp only [F37,seval,au];by_cases h8:8<g.ests.length
 ·have hI:(8:Int)<(g.ests.length:Int):=by omega
  refine awR [] [0,0,0,0,0,30,30,30,30,0] ?_;simp only [F37,seval,hI];refine awT ?_;refine awN ?_;simp only [F37,seval];refine awX ?_;simp only [F37,seval,h8]
 have hI8:¬(8:Int)<(g.ests.length:Int):=by omega
 by_cases h16:16<g.debts.length
 ·have hI:(16:Int)<(g.debts.length:Int):=by omega
  refine awR [] [0,0,0,0,0,30,30,30,30,0] ?_;simp only [F37,seval,hI8,hI];refine awT ?_;refine awN ?_;simp only [F37,seval];refine awX ?_;simp only [F37,seval,h16]
 have hI16:¬(16:Int)<(g.debts.length:Int):=by omega
 refine awR [] [0,0,0,0,0,30,30,30,30,0] ?_;simp only [F37,seval,hI8,hI16];refine awF ?_;refine awK ?_;simp only [F37,seval];refine awN ?_;simp only [F37,seval];refine aQ [1,3] [1] ?_;simp only [F37,seval];refine eY (M:=fun st=>f7 g.ests=0/\∃nx,st=⟨mkT [(1,.val (.one (.ptr 1 0 0)))],mkH [(1,⟨0,28,2,1,au g⟩)],nx,0⟩) ?_ ?_
 ·repeat' first|apply awS|apply awB
  refine aB (fun n st=>∃k nx,k<=g.ests.length/\n=g.ests.length-k/\f7 (g.ests.drop k)=f7 g.ests/\st=⟨mkT [(1,.val (.one (.ptr 1 0 0))),(3,one (.int .i64 k))],mkH [(1,⟨0,28,2,1,au g⟩)],nx,0⟩) g.ests.length ⟨0,_,by omega,by omega,rfl,rfl⟩ ?_;rintro n st ⟨k,nx,hk,rfl,hL,rfl⟩;by_cases hlt:k<g.ests.length
  ·have hI:(k:Int)<(g.ests.length:Int):=by omega
   have hat:=aO de g.ests k hlt;rw [List.drop_eq_getElem_cons hlt] at hL;have hW:=tM g.ests[k] (hge _ (List.getElem_mem hlt));generalize g.ests[k]=e at *
   simp only [f7] at hL;by_cases he:jc e=0
   ·repeat' first|apply awS|apply awB
    refine awN ?_;simp only [F37,seval,hI,au];refine awT ?_;refine awK ?_;simp only [F37,seval];refine awN ?_;simp only [F37,seval,hat,bh,ab bA,ab bg];repeat refine ob ?_
    refine ⟨_,hW,rfl,?_⟩;simp only [aq,F37,seval,he];refine awN ?_;simp only [F37,seval];refine awF ?_;refine awK ?_;simp only [F37,seval];refine awN ?_;simp only [F37,seval];repeat refine ob ?_
    refine ⟨_,aH [1,3] [1],g.ests.length-(k+1),by omega,k+1,nx,by omega,rfl,?_,?_⟩
    ·rw [if_neg (by simp [he])] at hL;exact hL
    simp only [F37,seval];try rfl
   repeat' first|apply awS|apply awB
   refine awN ?_;simp only [F37,seval,hI,au];refine awT ?_;refine awK ?_;simp only [F37,seval];refine awN ?_;simp only [F37,seval,hat,bh,ab bA,ab bg];repeat refine ob ?_
   refine ⟨_,hW,rfl,?_⟩;simp only [aq,F37,seval];refine awN ?_;simp only [F37,seval,he];refine awT ?_;refine awN ?_;simp only [F37,seval];rw [if_pos he] at hL;refine awX ?_;simp only [F37,seval,h8,h16,or_self,←hL,he]
  obtain rfl:k=g.ests.length:=by omega
  have hI:¬(g.ests.length:Int)<(g.ests.length:Int):=by omega
  rw [List.drop_length] at hL;simp only [f7] at hL;refine awN ?_;simp only [F37,seval,hI,au];refine awF ?_;refine awQ ?_;simp only [F37,seval];refine ⟨_,aH [1] [1],hL.symm,nx,?_⟩;simp only [F37,seval]
 rintro st ⟨hw0,nx,rfl⟩;simp only [h8,h16,or_self,if_false,hw0,ne_eq,not_true_eq_false];refine awN ?_;simp only [F37,seval];refine aQ [1,5] [1] ?_;simp only [F37,seval];refine eY (M:=fun st=>cM g.ests.length 0 g.ests=false/\∃nx,st=⟨mkT [(1,.val (.one (.ptr 1 0 0)))],mkH [(1,⟨0,28,2,1,au g⟩)],nx,0⟩) ?_ ?_
 ·repeat' first|apply awS|apply awB
  refine aB (fun n st=>∃k nx,k<=g.ests.length/\n=g.ests.length-k/\cM g.ests.length k (g.ests.drop k)=cM g.ests.length 0 g.ests/\st=⟨mkT [(1,.val (.one (.ptr 1 0 0))),(5,one (.int .i64 k))],mkH [(1,⟨0,28,2,1,au g⟩)],nx,0⟩) g.ests.length ⟨0,_,by omega,by omega,rfl,rfl⟩ ?_;rintro n st ⟨k,nx,hk,rfl,hL,rfl⟩;by_cases hlt:k<g.ests.length
  ·have hI:(k:Int)<(g.ests.length:Int):=by omega
   have hat:=aO de g.ests k hlt;rw [List.drop_eq_getElem_cons hlt] at hL;have hcn:=(hge _ (List.getElem_mem hlt)).1.2.2.1;generalize g.ests[k]=e at *
   simp only [cM] at hL;refine awN ?_;simp only [F37,seval,hI,au];refine awT ?_;refine awK ?_;simp only [F37,seval];refine awN ?_;simp only [F37,seval];refine aQ [1,5,6] [1] ?_;simp only [F37,seval];repeat' first|apply awS|apply awB
   refine aB (fun n st=>∃j nx,j<=e.claims.length/\n=e.claims.length-j/\d6 g.ests.length k (e.claims.drop j)=d6 g.ests.length k e.claims/\st=⟨mkT [(1,.val (.one (.ptr 1 0 0))),(5,one (.int .i64 k)),(6,one (.int .i64 j))],mkH [(1,⟨0,28,2,1,au g⟩)],nx,0⟩) e.claims.length ⟨0,_,by omega,by omega,rfl,rfl⟩ ?_;rintro n2 st ⟨j,nx2,hj,rfl,hM,rfl⟩;by_cases hjt:j<e.claims.length
   ·have hJ:(j:Int)<(e.claims.length:Int):=by omega
    have hat2:=aO bX e.claims j hjt;rw [List.drop_eq_getElem_cons hjt] at hM;generalize e.claims[j]=c at *
    simp only [d6] at hM;by_cases p2:(g.ests.length:Int)<=c.holder
    ·have hh:cM g.ests.length 0 g.ests=true:=by rw [←hL,←hM];simp [p2]
     refine awN ?_;simp only [F37,seval,hat,hJ,au,bh];repeat refine ob ?_
     refine awT ?_;refine awK ?_;simp only [F37,seval];refine awN ?_;simp only [F37,seval,hat,hat2,bh,aA];repeat refine ob ?_
     refine awR [] [0,0,0,0,0,0,140,140,140,0] ?_;simp only [F37,seval,p2];refine awT ?_;refine awN ?_;simp only [F37,seval];refine awX ?_;simp only [F37,seval,hh]
    by_cases p1:c.holder=(k:Int)
    ·have hh:cM g.ests.length 0 g.ests=true:=by rw [←hL,←hM];simp [p1]
     have p3:¬(g.ests.length:Int)<=(k:Int):=by omega
     refine awN ?_;simp only [F37,seval,hat,hJ,au,bh];repeat refine ob ?_
     refine awT ?_;refine awK ?_;simp only [F37,seval];refine awN ?_;simp only [F37,seval,hat,hat2,bh,aA];repeat refine ob ?_
     refine awR [] [0,0,0,0,0,0,140,140,140,0] ?_;simp only [F37,seval,p1,p3];refine awT ?_;refine awN ?_;simp only [F37,seval];refine awX ?_;simp only [F37,seval,hh]
    refine awN ?_;simp only [F37,seval,hat,hJ,au,bh];repeat refine ob ?_
    refine awT ?_;refine awK ?_;simp only [F37,seval];refine awN ?_;simp only [F37,seval,hat,hat2,bh,aA];repeat refine ob ?_
    refine awR [] [0,0,0,0,0,0,140,140,140,0] ?_;simp only [F37,seval,p1,p2];refine awF ?_;refine awK ?_;simp only [F37,seval];refine awN ?_;simp only [F37,seval];repeat refine ob ?_
    refine ⟨_,aH [1,5,6] [1],e.claims.length-(j+1),by omega,j+1,nx2,by omega,rfl,?_,?_⟩
    ·rw [←hM];simp [p1,p2]
    simp only [F37,seval];try rfl
   obtain rfl:j=e.claims.length:=by omega
   have hJ:¬(e.claims.length:Int)<(e.claims.length:Int):=by omega
   rw [List.drop_length] at hM;simp only [d6] at hM;refine awN ?_;simp only [F37,seval,hat,hJ,au,bh];repeat refine ob ?_
   refine awF ?_;refine awQ ?_;simp only [F37,seval];refine awN ?_;simp only [F37,seval];repeat refine ob ?_
   refine ⟨_,aH [1,5] [1],g.ests.length-(k+1),by omega,k+1,nx2,by omega,rfl,?_,?_⟩
   ·rw [←hM] at hL;simpa using hL
   simp only [F37,seval];try rfl
  obtain rfl:k=g.ests.length:=by omega
  have hI:¬(g.ests.length:Int)<(g.ests.length:Int):=by omega
  rw [List.drop_length] at hL;simp only [cM] at hL;refine awN ?_;simp only [F37,seval,hI,au];refine awF ?_;refine awQ ?_;simp only [F37,seval];refine ⟨_,aH [1] [1],hL.symm,nx,?_⟩;simp only [F37,seval]
 rintro st ⟨hh0,nx,rfl⟩;simp only [hh0,Bool.false_eq_true,if_false];refine awN ?_;simp only [F37,seval];refine aQ [1,8] [1] ?_;simp only [F37,seval];repeat' first|apply awS|apply awB
 refine aB (fun n st=>∃k nx,k<=g.debts.length/\n=g.debts.length-k/\fP g (g.debts.drop k) k=fP g g.debts 0/\st=⟨mkT [(1,.val (.one (.ptr 1 0 0))),(8,one (.int .i64 k))],mkH [(1,⟨0,28,2,1,au g⟩)],nx,0⟩) g.debts.length ⟨0,_,by omega,by omega,rfl,rfl⟩ ?_;rintro n st ⟨k,nx,hk,rfl,hL,rfl⟩;by_cases hlt:k<g.debts.length
 ·have hI:(k:Int)<(g.debts.length:Int):=by omega
  rw [List.drop_eq_getElem_cons hlt] at hL;obtain ⟨hd1,hd2⟩:=hgd _ (List.getElem_mem hlt);have hD:=yX g k hlt (by omega) hgl hd1 hd2;simp only [fP] at hL;generalize dbS g k g.debts[k]=r at *
  by_cases he:r=0
  ·rw [if_neg (by simp [he])] at hL;refine awN ?_;simp only [F37,seval,hI,au];refine awT ?_;refine awK ?_;simp only [F37,seval];refine awN ?_;simp only [F37,seval,ab ak,ab ai];refine ⟨_,hD,rfl,?_⟩;simp only [aq,F37,seval,he];refine awN ?_;simp only [F37,seval];refine awF ?_;refine awK ?_;simp only [F37,seval];refine awN ?_;simp only [F37,seval];repeat refine ob ?_
   refine ⟨_,aH [1,8] [1],g.debts.length-(k+1),by omega,k+1,nx,by omega,rfl,hL,?_⟩;simp only [F37,seval];try rfl
  rw [if_pos he] at hL;refine awN ?_;simp only [F37,seval,hI,au];refine awT ?_;refine awK ?_;simp only [F37,seval];refine awN ?_;simp only [F37,seval,ab ak,ab ai];refine ⟨_,hD,rfl,?_⟩;simp only [aq,F37,seval];refine awN ?_;simp only [F37,seval,he];refine awT ?_;refine awN ?_;simp only [F37,seval];refine awX ?_;simp only [F37,seval,hL]
 obtain rfl:k=g.debts.length:=by omega
 have hI:¬(g.debts.length:Int)<(g.debts.length:Int):=by omega
 rw [List.drop_length] at hL;simp only [fP] at hL;refine awN ?_;simp only [F37,seval,hI,au];refine awF ?_;refine awQ ?_;simp only [F37,seval];refine awN ?_;simp only [F37,seval];refine awX ?_;simp only [F37,seval,←hL]

def vM (tk:List Bool) (E:Int->Bool):Prop:=∀c:Int,0<=c->c<tk.length->tk.getD c.toNat false=E c
theorem lN {tk:List Bool} {E:Int->Bool} (hE:vM tk E):∀l:List GPart,dq tk l=agT tk.length E l
 |[]=>rfl
 |p::l=>by
  simp only [dq,agT];rw [lN hE l];by_cases h1:p.claim= -1
  ·have a1:¬(p.claim< -1∨(tk.length:Int)<=p.claim):=by omega
   rw [if_neg (by simp [h1]),if_neg a1];simp [h1]
  by_cases h2:p.claim<0∨(tk.length:Int)<=p.claim
  ·rw [if_pos ⟨h1,h2⟩,if_pos (show p.claim< -1∨(tk.length:Int)<=p.claim by omega)]
  rw [if_neg (fun h=>h2 h.2),if_neg (show ¬(p.claim< -1∨(tk.length:Int)<=p.claim) by omega),hE p.claim (by omega) (by omega)]
theorem lO (n:Int) (E:Int->Bool):∀l m:List GPart,agT n E (l++m)=if agT n E l≠0 then agT n E l else agT n E m
 |[],m=>by simp [agT]
 |p::l,m=>by
  simp only [List.cons_append,agT];rw [lO n E l m];split
  ·simp
  split
  ·simp
  split
  ·simp
  split<;>simp
theorem pH (n:Int) (E:Int->Bool):∀a:cw,agA n E a=agT n E a.flatten
 |[]=>rfl
 |t::a=>by rw [List.flatten_cons,lO,agA,pH n E a]
theorem qX {tk:List Bool} {E:Int->Bool} (hE:vM tk E) (a:cw):fY a tk=agS tk.length E a:=by
 unfold fY agS;rw [lN hE,pH];by_cases h1:24<a.length<;>by_cases h2:a.any eB=true<;>simp [h1,h2]
theorem fa {d:Array Int} {x:Int}:∀m,m<=d.size->(∃j,j<m/\d[j]! =x)->x∈Lib.compactUpTo d m
 |0,_,⟨j,h,_⟩=>by omega
 |m+1,hm,⟨j,hj,hx⟩=>by
  rw [Lib.compactUpTo_succ,List.mem_append];by_cases hjm:j<m
  ·exact .inl (fa m (by omega) ⟨j,hjm,hx⟩)
  obtain rfl:j=m:=by omega
  cases hk:Lib.keeps d j with
  |true=>right;simp [hx]
  |false=>
   left;have h2:¬(j=0∨d[j]!≠d[j-1]!):=by simpa [Lib.keeps] using hk
   have h3:j≠0:=fun h=>h2 (.inl h)
   have h4:d[j]! =d[j-1]! :=Classical.byContradiction fun h=>h2 (.inr h)
   exact fa j (by omega) ⟨j-1,by omega,by rw [←h4];exact hx⟩
theorem xB {a:cw} {i:Int}:i∈mem a↔i∈dI a.flatten:=by
 refine ⟨se,fun h=>?_⟩;have h1:i∈Gb (dI a.flatten):=by simpa [Gb] using h
 obtain ⟨j,hj,hx⟩:=List.getElem_of_mem h1;exact fa _ (by simp) ⟨j,hj,by rw [getElem!_pos _ j (by simpa using hj)];simpa using hx⟩
theorem pI:∀(ms:List Int) (tk:List Bool),(∀i∈ms,0<=i/\i<tk.length)->∀c:Int,0<=c->c<tk.length->(mh tk ms).getD c.toNat false=(tk.getD c.toNat false||decide (c∈ms))
 |[],tk,_,c,_,_=>by simp [mh]
 |i::ms,tk,h,c,h0,h1=>by
  have hi:=h i (by simp);rw [mh,pI ms _ (fun j hj=>by rw [List.length_set];exact h j (List.mem_cons_of_mem _ hj)) c h0 (by rw [List.length_set];exact h1)];by_cases hci:c=i
  ·subst hci;simp [List.getD,show c.toNat<tk.length by omega]
  have:i.toNat≠c.toNat:=by omega
  simp [List.getD,this,hci]
theorem sj (c:Int) (hc:c≠ -1):∀l:List GPart,mbT c l=decide (c∈dI l)
 |[]=>by simp [mbT,dI]
 |p::l=>by
  simp only [mbT,dI,sj c hc l];by_cases h:p.claim= -1
  ·have:p.claim≠c:=fun e=>hc (by rw [←e,h])
   simp [h,Ne.symm hc]
  by_cases h2:p.claim=c
  ·simp [h2,hc]
  simp [h,h2,Ne.symm h2]
theorem lP (c:Int):∀l m:List GPart,mbT c (l++m)=(mbT c l||mbT c m)
 |[],m=>by simp [mbT]
 |p::l,m=>by simp [mbT,lP c l m,Bool.or_assoc]
theorem pJ (c:Int):∀a:cw,mbA c a=mbT c a.flatten
 |[]=>rfl
 |t::a=>by rw [List.flatten_cons,lP,mbA,pJ c a]
theorem pK (c:Int) (a:cw):∀l:List cw,mbE c (l++[a])=(mbE c l||mbA c a)
 |[]=>by simp [mbE]
 |b::l=>by simp [mbE,pK c a l,Bool.or_assoc]
theorem mU (g:GEst):∀(l:List cw) (i:Nat) (tk:List Bool),l=g.agrs.drop i->tk.length=g.claims.length->vM tk (fun c=>mbE c (g.agrs.take i))->ie tk l=ig g i l
 |[],_,_,_,_,_=>rfl
 |a::l,i,tk,hl,hn,hE=>by
  have h1:=qX hE a;rw [hn] at h1;simp only [ie,ig,←h1];by_cases h0:fY a tk=0
  ·rw [if_neg (by simp [h0]),if_neg (by simp [h0])];have hi:i<g.agrs.length:=by
    rcases Nat.lt_or_ge i g.agrs.length with h|h
    ·exact h
    rw [List.drop_eq_nil_of_le h] at hl;cases hl
   rw [List.drop_eq_getElem_cons hi] at hl;obtain ⟨rfl,hl'⟩:=List.cons.inj hl;refine mU g l (i+1) _ hl' (by rw [ic];exact hn) fun c c0 c1=>?_
   rw [ic] at c1;have hm:=(mT h0).2.2;rw [pI _ _ hm c c0 c1,hE c c0 c1,List.take_succ_eq_append_getElem hi];show (mbE c (List.take i g.agrs)||decide (c∈mem g.agrs[i]))=mbE c (List.take i g.agrs++[g.agrs[i]]);rw [pK,pJ,sj c (by omega)];congr 1;simp [xB]
  rw [if_pos h0,if_pos h0]
theorem zU (e:GEst):jb e=jc e:=by
 unfold jb jc;rw [mU e e.agrs 0 _ (by simp) (by simp) fun c c0 c1=>by simp only [mbE,List.take_zero,List.getD,List.getElem?_replicate];split<;>rfl]
theorem mV:∀l:List GEst,Jw l=f7 l
 |[]=>rfl
 |e::l=>by simp only [Jw,f7,zU e,mV l]
theorem lQ (l0:Leg):∀(t u:List Leg) (j:Nat),lgT l0 (t++u) j=match lgT l0 t j with
  |some x=>some x
  |none=>lgT l0 u (j+t.length)
 |[],u,j=>by simp [lgT]
 |x::t,u,j=>by
  simp only [List.cons_append,lgT];by_cases h:x.1=l0.1/\x.2=l0.2
  ·simp [h]
  rw [if_neg h,if_neg h,lQ l0 t u (j+1)];simp [Nat.add_assoc,Nat.add_comm 1]
theorem ij (l0:Leg):∀(t:List Leg) (j:Nat),lgT l0 t j=none↔l0∉t
 |[],j=>by simp [lgT]
 |x::t,j=>by
  simp only [lgT];by_cases h:x.1=l0.1/\x.2=l0.2
  ·have:x=l0:=Prod.ext h.1 h.2;simp [this]
  have hx:l0≠x:=fun e=>h (by rw [e];exact ⟨rfl,rfl⟩)
  rw [if_neg h,ij l0 t (j+1)];simp [hx]
theorem jd (l0:Leg):∀(ds es:List GDebt) (i:Nat),lgD l0 (ds++es) i=match lgD l0 ds i with
  |some x=>some x
  |none=>lgD l0 es (i+ds.length)
 |[],es,i=>by simp [lgD]
 |d::ds,es,i=>by
  simp only [List.cons_append,lgD];cases lgT l0 d.legs 0 with
  |some j=>rfl
  |none=>
   simp only;rw [jd l0 ds es (i+1)];simp [Nat.add_assoc,Nat.add_comm 1]
theorem vN (l0:Leg):∀(ds:List GDebt) (i:Nat) (x:Nat×Nat),lgD l0 ds i=some x->x.1<i+ds.length
 |d::ds,i,x,h=>by
  simp only [lgD] at h;cases hh:lgT l0 d.legs 0 with
  |some j=>rw [hh] at h;simp at h;subst h;simp
  |none=>rw [hh] at h;have:=vN l0 ds (i+1) x h;simp only [List.length_cons];omega
theorem vO (l0:Leg):∀(t:List Leg) (j x:Nat),lgT l0 t j=some x->x<j+t.length
 |y::t,j,x,h=>by
  simp only [lgT] at h;split at h
  ·simp at h;subst h;simp
  have:=vO l0 t (j+1) x h;simp only [List.length_cons];omega
theorem xC (g:GGrp) (pre post:List GDebt) (d:GDebt) (dn ls:List Leg) (l:Leg) (hg:g.debts=pre++d::post) (hd:d.legs=dn++l::ls):
  ii (lgD l g.debts 0) pre.length dn.length=true↔(lgD l pre 0≠none∨l∈dn):=by
 rw [hg,jd];cases h1:lgD l pre 0 with
 |some x=>
  have:=vN l pre 0 x h1;simp only [ii,decide_eq_true_eq,ne_eq,reduceCtorEq,not_false_eq_true,true_or,iff_true];left;omega
 |none=>
  simp only [lgD,hd,lQ,Nat.zero_add];cases h2:lgT l dn 0 with
  |some x=>
   have:=vO l dn 0 x h2;have hm:l∈dn:=Classical.byContradiction fun h=>by rw [(ij l dn 0).2 h] at h2;cases h2
   simp only [ii,decide_eq_true_eq,hm,or_true,iff_true];right;omega
  |none=>
   have hm:=(ij l dn 0).1 h2;simp [lgT,ii,hm]
theorem xX (g:GGrp) (pre post:List GDebt) (d:GDebt) (hg:g.debts=pre++d::post) (h0:Int):∀(ls dn:List Leg) (T:List Leg),d.legs=dn++ls->(∀l,l∈T↔(lgD l pre 0≠none∨l∈dn))->
  (eu g.ests h0 ls T).1=dbL g pre.length h0 ls dn.length/\((eu g.ests h0 ls T).1=0->∀l,l∈(eu g.ests h0 ls T).2↔(lgD l pre 0≠none∨l∈d.legs))
 |[],dn,T,hd,hT=>by
  simp only [eu,dbL];refine ⟨trivial,fun _ l=>?_⟩;rw [hT l,hd,List.append_nil]
 |l::ls,dn,T,hd,hT=>by
  have hb:=xC g pre post d dn ls l hg hd;rw [←hT l] at hb;simp only [eu,dbL,hb];by_cases c1:cR g.ests l=false
  ·simp [c1]
  by_cases c2:l∈T
  ·simp [c1,c2]
  by_cases c3:(cL g.ests l).holder≠h0
  ·simp [c1,c2,c3]
  have ih:=xX g pre post d hg h0 ls (dn++[l]) (T++[l]) (by simpa using hd) (fun x=>by simp only [List.mem_append,List.mem_singleton];rw [hT x];exact or_assoc);rw [List.length_append,List.length_singleton] at ih;simpa only [c1,c2,c3,if_false,reduceCtorEq,ite_false] using ih
theorem lR (g:GGrp):∀(ds pre:List GDebt) (T:List Leg),g.debts=pre++ds->(∀l,l∈T↔lgD l pre 0≠none)->fO g ds T=fP g ds pre.length
 |[],_,_,_,_=>rfl
 |d::ds,pre,T,hg,hT=>by
  have h:=xX g pre ds d hg (cL g.ests (d.legs.getD 0 (0,0))).holder d.legs [] T rfl (fun l=>by simpa using hT l);have h1:(ew g d T).1=dbS g pre.length d:=by
   unfold ew dbS;split
   ·rfl
   split
   ·rfl
   exact h.1
  simp only [fO,fP,←h1];by_cases c:(ew g d T).1=0
  ·rw [if_neg (by simp [c]),if_neg (by simp [c])];have:=lR g ds (pre++[d]) (ew g d T).2 (by simpa using hg) (fun l=>?_)
   ·simpa using this
   have h2:(ew g d T)=eu g.ests (cL g.ests (d.legs.getD 0 (0,0))).holder d.legs T:=by
    unfold ew at c ⊢;split
    ·rename_i hh;rw [if_pos hh] at c;cases c
    rename_i hh;rw [if_neg hh] at c;split
    ·rename_i hh2;rw [if_pos hh2] at c;cases c
    rfl
   rw [h2] at c ⊢;rw [h.2 c l,jd];cases h3:lgD l pre 0 with
   |some x=>simp
   |none=>
    simp only [lgD];cases h4:lgT l d.legs 0 with
    |some x=>
     have:l∈d.legs:=Classical.byContradiction fun h=>by rw [(ij l _ 0).2 h] at h4;cases h4
     simp [this]
    |none=>simp [(ij l _ 0).1 h4]
  rw [if_pos c,if_pos c]
theorem ez (g:GGrp):nW g=nX g:=by
 unfold nW nX;rw [mV,lR g g.debts [] [] rfl (fun l=>by simp [lgD])];rfl
theorem bJ {g:GGrp} (h:b5 g):xW g:=⟨fun e he=>(h.1 e he).1,h.2.1⟩
theorem cC {κ:Kx} {vs:List Value} {a:A1} {l:List A1} (h:cz κ vs (a::l)):∃v vs',vs=v::vs'/\bb κ v a/\cz κ vs' l:=by
 cases vs with
 |nil=>exact h.elim
 |cons v vs=>exact ⟨v,vs,rfl,h.1,h.2⟩
theorem sD (es:List GEst) (j:Nat) (h:j<es.length):es.getD j bM=es[j]:=by
 rw [List.getD_eq_getElem?_getD,List.getElem?_eq_getElem h];rfl
end Go.Proofs.YtcgpghifhehlhaaGreatDoor
