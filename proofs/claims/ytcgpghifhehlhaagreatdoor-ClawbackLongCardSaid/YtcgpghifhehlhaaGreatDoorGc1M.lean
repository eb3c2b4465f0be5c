/- guarantee.holder, guarantee.checkDebt walked by the abstract machine. -/
import Derived.Test.YtcgpghifhehlhaaGreatDoorAbGM
import Derived.Test.YtcgpghifhehlhaaGreatDoorBl5M
set_option linter.unusedVariables false
set_option maxHeartbeats 4000000
set_option linter.unusedSimpArgs false
set_option linter.defProp false
namespace Go.Proofs.YtcgpghifhehlhaaGreatDoor
open Go Go.RowKit Go.Proofs.Tryz
instance:Inhabited GClaim:=⟨⟨0,0,⟨false,cc,cc⟩⟩⟩
def cL (es:List GEst) (l:Leg):GClaim:=(es.getD l.1.toNat bM).claims.getD l.2.toNat default
def cR (es:List GEst) (l:Leg):Bool:=decide (0<=l.1)&&decide (l.1<es.length)&&decide (0<=l.2)&&decide (l.2<(es.getD l.1.toNat bM).claims.length)
theorem Jo {α:Type} {f:α->List C} {sz:Nat} (hf:∀a,(f a).length=sz) (l:List α) (i:Int) (d:α) (h0:0<=i) (h:i<l.length):(ar f l).drop (i.toNat*sz)=f (l.getD i.toNat d)++ar f (l.drop (i.toNat+1)):=by
 have hk:i.toNat<l.length:=by omega
 rw [aO hf l i.toNat hk];congr 2;simp [List.getD,hk]
def F10:=And.intro zS (And.intro Jy (And.intro KF (And.intro pj (And.intro u6 (And.intro u7 (And.intro pk (And.intro tv (And.intro tw (And.intro pl (And.intro tx (And.intro tz (xd))))))))))))
theorem F11:type_of%F10:=F10
theorem pE (g:GGrp) (l:Leg) (h:cR g.ests l=true):
  ch prog 76 [.agg (au g),.agg (f9 l)] (one (.int .i64 (cL g.ests l).holder)):=by
 simp only [cR,Bool.and_eq_true,decide_eq_true_eq] at h;obtain ⟨⟨⟨h1,h2⟩,h3⟩,h4⟩:=h;have a1:=Jo de g.ests l.1 bM h1 h2;have a2:=Jo bX (g.ests.getD l.1.toNat bM).claims l.2 default h3 h4;unfold cL;generalize g.ests.getD l.1.toNat bM=e at *
 generalize e.claims.getD l.2.toNat default=c at *
 refine bF func76 rfl (by decide) (N:=17) rfl (by simp) (R:=[.tmp 4]) rfl fun en k0=>?_
 refine awN ?_;simp only [F11,seval,au,f9];refine awD (scT 0 13 .nil) [0,0,0,0,0,0,0,0,0,0,0,0,0] ?_;simp only [F11,seval,a1,a2,bh,aA];refine ⟨⟨h1,h2⟩,⟨h3,h4⟩,?_⟩;refine awX ?_;simp only [F11,seval]
noncomputable def eu (es:List GEst) (h0:Int):List Leg->List Leg->Int×List Leg
 |[],T=>(0,T)
 |l::ls,T=>if cR es l=false then (1,T) else if l∈T then (20,T) else if (cL es l).holder≠h0 then (19,T) else eu es h0 ls (T++[l])
noncomputable def ew (g:GGrp) (d:GDebt) (T:List Leg):Int×List Leg:=
 if 8<d.legs.length then (2,T) else if aL (qOf d.whole)<0 then (7,T) else eu g.ests (cL g.ests (d.legs.getD 0 (0,0))).holder d.legs T
def lM (s:Nat) (T:List Leg):Blk:=⟨s,100,0,0,jV T⟩
def F12:=And.intro zS (And.intro KF (And.intro pm (And.intro pj (And.intro u6 (And.intro tA (And.intro xe (And.intro xf (And.intro pk (And.intro tv (And.intro tw (And.intro pl (And.intro tx (And.intro tz (And.intro xg (And.intro xh (And.intro yB (And.intro jS (And.intro xd (And.intro jT (yC))))))))))))))))))))
theorem F13:type_of%F12:=F12
theorem zO {H:Hp} {f:Hp} (hb:∀x B,H x=some B->x<1000) (hf:∀x,x<1000->x≠66->f x=H x) (l:List Nat):∀x B,H x=some B->fI (66::l) x=true∨f x=some B:=fun x B hB=>by
 by_cases hx:x=66
 ·left;subst hx;rfl
 right;rw [hf x (hb x B hB) hx];exact hB
theorem pF (g:GGrp) (d:GDebt) (T:List Leg) (H:Hp) (nx0 s:Nat) (hb:∀x B,H x=some B->x<1000) (hH:H 66=some (lM s T)) (h1:d.whole.num.size<=500000000000) (h2:d.whole.den.size<=500000000000):
  dk prog 35 [.agg (au g),.agg (cn d),.one (.own 66 s 0 0)] H nx0
   (fun res H' _=>res=one (.int .i64 (ew g d T).1)/\H' 66=some (lM s (ew g d T).2)/\∀x,x<1000->x≠66->H' x=H x):=by
 have hS:=rR d.whole h1 h2;unfold ew;refine fm 1000 func35 rfl (by decide) (N:=74) rfl (by simp) (Rl:=[.tmp 6]) rfl fun en k0=>?_
 by_cases hlen:8<d.legs.length
 ·have hI:(8:Int)<(d.legs.length:Int):=by omega
  refine awN ?_;simp only [F13,seval,au,cn];refine awN ?_;simp only [F13,seval,hI];refine awT ?_;refine awN ?_;simp only [F13,seval];refine awX ?_;simp only [F13,seval,hlen,hH];exact (fun x h1 h2=>by (try simp only [aj]);repeat rw [if_neg (by omega)])
 have hI:¬(8:Int)<(d.legs.length:Int):=by omega
 by_cases hq:aL (qOf d.whole)<0
 ·repeat' first|apply awS|apply awB
  refine awN ?_;simp only [F13,seval,au,cn];refine awN ?_;simp only [F13,seval,hI];refine awF ?_;refine awN ?_;simp only [F13,seval];refine ⟨_,hS,rfl,?_⟩;simp only [aq,F13,seval,hq];refine awT ?_;refine awN ?_;simp only [F13,seval];refine awX ?_;simp only [F13,seval,hlen,hH];exact (fun x h1 h2=>by (try simp only [aj]);repeat rw [if_neg (by omega)])
 repeat' first|apply awS|apply awB
 refine awN ?_;simp only [F13,seval,au,cn];refine awN ?_;simp only [F13,seval,hI];refine awF ?_;refine awN ?_;simp only [F13,seval];refine ⟨_,hS,rfl,?_⟩;simp only [aq,F13,seval,hq];refine awF ?_;refine awK ?_;simp only [F13,seval];refine awN ?_;simp only [F13,seval];simp only [hlen,if_false];refine aE H [2,3,4,20,21,22] [66,1003,1004] (zO hb (fun x h1 h2=>by (try simp only [aj]);repeat rw [if_neg (by omega)]) _) ?_;simp only [F13,seval,hH];generalize hh0:(cL g.ests (d.legs.getD 0 (0,0))).holder=hd0;repeat' first|apply awS|apply awB
 refine aB (fun n st=>∃k nx T1,k<=d.legs.length/\n=d.legs.length-k/\eu g.ests hd0 (d.legs.drop k) T1=eu g.ests hd0 d.legs T/\(0<k->cR g.ests (d.legs.getD 0 (0,0))=true)/\st=⟨mkT [(2,.val (.one (.own 66 s 0 0))),(3,.val (.one (.ptr 1003 nx0 0))),(4,.val (.one (.ptr 1004 (nx0+1) 0))),(20,.val (.one (.sh 2 d.legs.length (ar f9 d.legs)))),(21,one (.int .i64 d.legs.length)),(22,one (.int .i64 k))],bW H [(66,lM s T1),(1003,⟨nx0,28,2,1,au g⟩),(1004,⟨nx0+1,42,4,1,cn d⟩)],nx,1000⟩) d.legs.length ⟨0,_,T,by omega,by omega,rfl,by omega,rfl⟩ ?_;rintro n st ⟨k,nx,T1,hk,rfl,hL,h0,rfl⟩;by_cases hlt:k<d.legs.length
 ·have hI:(k:Int)<(d.legs.length:Int):=by omega
  have hI0:(0:Int)<(d.legs.length:Int):=by omega
  have hat:=aO cr d.legs k hlt;have hdr:d.legs.drop k=d.legs[k]::d.legs.drop (k+1):=List.drop_eq_getElem_cons hlt;have ht0:List.take 2 (ar f9 d.legs)=f9 (d.legs.getD 0 (0,0)):=by
   have h5:0<d.legs.length:=by omega
   have:=aO cr d.legs 0 h5;simp only [Nat.zero_mul,List.drop_zero] at this;rw [this,List.take_left' (cr _)];simp [List.getD,h5]
  have hlen0:2<=(ar f9 d.legs).length:=by rw [aS cr];omega
  have hk0:k=0->d.legs[k]=d.legs.getD 0 (0,0):=fun h=>by subst h;simp [List.getD,hlt]
  rw [hdr] at hL;generalize d.legs[k]=l at *
  simp only [eu] at hL;have RES:∀(c:Int),(if cR g.ests l=false then ((1:Int),T1) else if l∈T1 then (20,T1) else if (cL g.ests l).holder≠hd0 then (19,T1) else eu g.ests hd0 (List.drop (k+1) d.legs) (T1++[l]))=(c,T1)->eu g.ests hd0 d.legs T=(c,T1):=fun c h=>hL.symm.trans h
  by_cases hin:cR g.ests l=true
  ·have hin':=hin;simp only [cR,Bool.and_eq_true,decide_eq_true_eq] at hin';obtain ⟨⟨⟨e1,e2⟩,e3⟩,e4⟩:=hin';have a1:=Jo de g.ests l.1 bM e1 e2;have hH1:=pE g l hin;have hin0:cR g.ests (d.legs.getD 0 (0,0))=true:=by
    rcases Nat.eq_zero_or_pos k with h|h
    ·rw [←hk0 h];exact hin
    exact h0 h
   have hH2:=pE g (d.legs.getD 0 (0,0)) hin0;rw [hh0] at hH2;generalize d.legs.getD 0 (0,0)=l0 at *
   have n1:¬l.1<0:=by omega
   have n2:¬(g.ests.length:Int)<=l.1:=by omega
   have n3:¬l.2<0:=by omega
   have n4:¬((g.ests.getD l.1.toNat bM).claims.length:Int)<=l.2:=by omega
   refine awN ?_;simp only [F13,seval,hI];refine awT ?_;refine awK ?_;simp only [F13,seval];refine awN ?_;simp only [F13,seval,hat,f9];repeat refine ob ?_
   refine awD (scT 0 30 .nil) [0,0,0,0,62,62,62,62,62,62,0,0,78,78,78,0,0,88,88,88,88,88,88,88,88,88,88,88,0,0] ?_;simp only [F13,seval,n1,n2,n3,n4,a1,bh,au];repeat refine ob ?_
   refine awF ?_;by_cases hm:l∈T1
   ·repeat' first|apply awS|apply awB
    refine awN ?_;simp only [F13,seval,xm l T1 hm,lM,Option.getD_some];refine ⟨qQ l T1,?_⟩;refine awT ?_;refine awN ?_;simp only [F13,seval];have hR:=RES 20 (by simp [hin,hm]);refine awX ?_;simp only [F13,seval,hR];exact (fun x h1 h2=>by (try simp only [aj]);repeat rw [if_neg (by omega)])
   repeat' first|apply awS|apply awB
   refine awN ?_;simp only [F13,seval,vg l T1 hm,lM,Option.getD_none];refine ⟨qQ l T1,?_⟩;refine awF ?_;by_cases hne:(cL g.ests l).holder=hd0
   ·repeat' first|apply awS|apply awB
    refine awD (scq [1,3] (scT 3 5 (scq [4,16,19,21] .nil))) [0,0,0,0,0,0,0,0,0,0,0] ?_;simp only [F13,seval,cn,ht0,f9,ab ak,ab ai];repeat refine ob ?_
    refine ⟨_,hH1,rfl,?_⟩;simp only [aq,F13,seval,ab ak,ab ai];refine ⟨_,hH2,rfl,?_⟩;simp only [F13,seval,hne];refine awF ?_;refine awK ?_;simp only [F13,seval];refine awN ?_;simp only [F13,seval,vh l T1 hm];refine ⟨qQ l T1,?_⟩;refine awN ?_;simp only [F13,seval];repeat refine ob ?_
    refine ⟨_,bE H [2,3,4,20,21,22] [66,1003,1004] (zO hb (fun x h1 h2=>by (try simp only [aj]);repeat rw [if_neg (by omega)]) _),d.legs.length-(k+1),by omega,k+1,nx+1,T1++[l],by omega,rfl,?_,fun _=>hin0,?_⟩
    ·rw [←hL];simp [hin,hm,hne]
    simp only [F13,seval];try rfl
   repeat' first|apply awS|apply awB
   refine awD (scq [1,3] (scT 3 5 (scq [4,16,19,21] .nil))) [0,0,0,0,0,0,0,0,0,0,0] ?_;simp only [F13,seval,cn,ht0,f9,ab ak,ab ai];repeat refine ob ?_
   refine ⟨_,hH1,rfl,?_⟩;simp only [aq,F13,seval,ab ak,ab ai];refine ⟨_,hH2,rfl,?_⟩;simp only [F13,seval,hne];refine awT ?_;refine awN ?_;simp only [F13,seval];have hR:=RES 19 (by simp [hin,hm,hne]);refine awX ?_;simp only [F13,seval,hR];exact (fun x h1 h2=>by (try simp only [aj]);repeat rw [if_neg (by omega)])
  have hin':cR g.ests l=false:=by simpa using hin
  have hR:=RES 1 (by simp [hin']);by_cases p1:l.1<0
  ·refine awN ?_;simp only [F13,seval,hI];refine awT ?_;refine awK ?_;simp only [F13,seval];refine awN ?_;simp only [F13,seval,hat,f9];repeat refine ob ?_
   refine awD (scT 0 30 .nil) [0,0,0,0,62,62,62,62,62,62,0,0,78,78,78,0,0,88,88,88,88,88,88,88,88,88,88,88,0,0] ?_;simp only [F13,seval,p1,au];refine awT ?_;refine awN ?_;simp only [F13,seval];refine awX ?_;simp only [F13,seval,hR,lM];exact (fun x h1 h2=>by (try simp only [aj]);repeat rw [if_neg (by omega)])
  by_cases p2:(g.ests.length:Int)<=l.1
  ·refine awN ?_;simp only [F13,seval,hI];refine awT ?_;refine awK ?_;simp only [F13,seval];refine awN ?_;simp only [F13,seval,hat,f9];repeat refine ob ?_
   refine awD (scT 0 30 .nil) [0,0,0,0,62,62,62,62,62,62,0,0,78,78,78,0,0,88,88,88,88,88,88,88,88,88,88,88,0,0] ?_;simp only [F13,seval,p1,p2,au];refine awT ?_;refine awN ?_;simp only [F13,seval];refine awX ?_;simp only [F13,seval,hR,lM];exact (fun x h1 h2=>by (try simp only [aj]);repeat rw [if_neg (by omega)])
  by_cases p3:l.2<0
  ·refine awN ?_;simp only [F13,seval,hI];refine awT ?_;refine awK ?_;simp only [F13,seval];refine awN ?_;simp only [F13,seval,hat,f9];repeat refine ob ?_
   refine awD (scT 0 30 .nil) [0,0,0,0,62,62,62,62,62,62,0,0,78,78,78,0,0,88,88,88,88,88,88,88,88,88,88,88,0,0] ?_;simp only [F13,seval,p1,p2,p3,au];refine awT ?_;refine awN ?_;simp only [F13,seval];refine awX ?_;simp only [F13,seval,hR,lM];exact (fun x h1 h2=>by (try simp only [aj]);repeat rw [if_neg (by omega)])
  have a1:=Jo de g.ests l.1 bM (by omega) (by omega);have p4:((g.ests.getD l.1.toNat bM).claims.length:Int)<=l.2:=by
   simp only [cR] at hin';by_cases q:((g.ests.getD l.1.toNat bM).claims.length:Int)<=l.2
   ·exact q
   have e1:0<=l.1:=by omega
   have e2:l.1<(g.ests.length:Int):=by omega
   have e3:0<=l.2:=by omega
   have e4:l.2<((g.ests.getD l.1.toNat bM).claims.length:Int):=by omega
   rw [decide_eq_true e1,decide_eq_true e2,decide_eq_true e3,decide_eq_true e4] at hin';cases hin'
  refine awN ?_;simp only [F13,seval,hI];refine awT ?_;refine awK ?_;simp only [F13,seval];refine awN ?_;simp only [F13,seval,hat,f9];repeat refine ob ?_
  refine awD (scT 0 30 .nil) [0,0,0,0,62,62,62,62,62,62,0,0,78,78,78,0,0,88,88,88,88,88,88,88,88,88,88,88,0,0] ?_;simp only [F13,seval,p1,p2,p3,p4,a1,bh,au];repeat refine ob ?_
  refine awT ?_;refine awN ?_;simp only [F13,seval];refine awX ?_;simp only [F13,seval,hR,lM];exact (fun x h1 h2=>by (try simp only [aj]);repeat rw [if_neg (by omega)])
 obtain rfl:k=d.legs.length:=by omega
 have hI:¬(d.legs.length:Int)<(d.legs.length:Int):=by omega
 rw [List.drop_length] at hL;simp only [eu] at hL;refine awN ?_;simp only [F13,seval,hI];refine awF ?_;refine awQ ?_;simp only [F13,seval];refine awN ?_;simp only [F13,seval];refine awX ?_;simp only [F13,seval,←hL,lM];exact (fun x h1 h2=>by (try simp only [aj]);repeat rw [if_neg (by omega)])
def cB (b:Bool):List C:=[.lit (.bool b)]
theorem vI (b:Bool):(cB b).length=1:=rfl
theorem KM (b:Bool):av (cB b)=true:=rfl
noncomputable def dq (tk:List Bool):List GPart->Int
 |[]=>0
 |p::l=>if p.claim≠ -1/\(p.claim<0∨(tk.length:Int)<=p.claim) then 1 else if p.claim= -1/\p.capped=false then 21 else if p.capped=true/\aL (qOf p.cap)<0 then 7
  else if p.claim≠ -1/\tk.getD p.claim.toNat false=true then 20 else dq tk l
noncomputable def fY (a:cw) (tk:List Bool):Int:=if 24<a.length∨a.any eB=true then 2 else dq tk a.flatten
theorem fZ:∀(a:cw),a.any eB=false->a.flatten.length<=a.length*24
 |[],_=>by simp
 |t::a,h=>by
  simp only [List.any_cons,Bool.or_eq_false_iff] at h;have:=fZ a h.2;have h1:t.length<=24:=by have:=of_decide_eq_false h.1;omega
  simp only [List.flatten_cons,List.length_append,List.length_cons];omega
def F14:=And.intro zS (And.intro tf6 (And.intro yD (And.intro tf2 (And.intro tf0 (And.intro jU (And.intro tf8 (And.intro tf9 (And.intro tB (And.intro mf (And.intro pi (And.intro tu (And.intro jS (And.intro xi (And.intro xd (tf5)))))))))))))))
theorem F15:type_of%F14:=F14
theorem j0 (a:cw) (tk:List Bool) (ht:∀t∈a,t.length<=1000000000000) (hn:tk.length<=1000000000000) (hcp:∀p∈a.flatten,p.cap.num.size<=500000000000/\p.cap.den.size<=500000000000):
  ch prog 74 [.agg (aU a),.one (.sh 1 tk.length (ar cB tk))] (one (.int .i64 (fY a tk))):=by
 refine bF func74 rfl (by decide) (N:=70) rfl (by simp) (R:=[.tmp 4]) rfl fun en k0=>?_
 have hlong:True:=trivial;unfold fY;by_cases h24:24<a.length
 ·have hI:(24:Int)<(a.length:Int):=by omega
  refine awN ?_;simp only [F15,seval,aU];refine awR [] [0,0,0,0,0,26,26,26,0] ?_;simp only [F15,seval,hI];refine awT ?_;refine awN ?_;simp only [F15,seval];refine awX ?_;simp only [F15,seval,h24]
 have hI:¬(24:Int)<(a.length:Int):=by omega
 have hCF:=lJ a (by omega) ht;cases hany:a.any eB
 ·rw [hany] at hCF;have hfl:=fZ a hany;have hCC:=pD a (by omega) (by omega);simp only [h24,false_or,Bool.false_eq_true,if_false];refine awN ?_;simp only [F15,seval,aU];refine awR [] [0,0,0,0,0,26,26,26,0] ?_;simp only [F15,seval,hI];refine ⟨ab cA a,_,hCF,rfl,?_⟩;simp only [aq,F15,seval];refine awF ?_;refine awK ?_;simp only [F15,seval];refine awN ?_;simp only [F15,seval];refine ⟨ab cA a,_,hCC,by simp [av,az,ab eJ],?_⟩;simp only [aq,F15,seval];refine aQ [1,19,20,21] [] ?_;simp only [F15,seval];repeat' first|apply awS|apply awB
  refine aB (fun n st=>∃k nx,k<=a.flatten.length/\n=a.flatten.length-k/\dq tk (a.flatten.drop k)=dq tk a.flatten/\st=⟨mkT [(1,.val (.one (.sh 1 tk.length (ar cB tk)))),(19,.val (.one (.sh 5 a.flatten.length (ar aT a.flatten)))),(20,one (.int .i64 a.flatten.length)),(21,one (.int .i64 k))],mkH [],nx,0⟩) a.flatten.length ⟨0,_,by omega,by omega,rfl,rfl⟩ ?_;rintro n st ⟨k,nx,hk,rfl,hL,rfl⟩;have hcaps:∀p∈a.flatten,p.cap.num.size<=500000000000/\p.cap.den.size<=500000000000:=hcp;generalize a.flatten=l at *
  by_cases hlt:k<l.length
  ·have hI:(k:Int)<(l.length:Int):=by omega
   have hat:=aO gj l k hlt;rw [List.drop_eq_getElem_cons hlt] at hL;have hS:=rR l[k].cap (hcaps _ (List.getElem_mem hlt)).1 (hcaps _ (List.getElem_mem hlt)).2;generalize l[k]=p at *
   simp only [dq] at hL;by_cases hc:p.claim= -1
   ·cases hcap:p.capped
    ·repeat' first|apply awS|apply awB
     refine awN ?_;simp only [F15,seval,hI];refine awT ?_;refine awK ?_;simp only [F15,seval];refine awN ?_;simp only [F15,seval,hat,aT];repeat refine ob ?_
     refine awN ?_;simp only [F15,seval,hc];refine awR [] [0,0,0,65,65,65,65,72,72,72,72,72,65,0,0] ?_;simp only [F15,seval,];refine awF ?_;refine awR [] [0,0,93,93,93,0,0] ?_;simp only [F15,seval,hcap];refine awT ?_;refine awN ?_;simp only [F15,seval];have hR:dq tk l=21:=by rw [←hL];simp [hc,hcap]
     refine awX ?_;simp only [F15,seval,hR]
    by_cases hsg:aL (qOf p.cap)<0
    ·repeat' first|apply awS|apply awB
     refine awN ?_;simp only [F15,seval,hI];refine awT ?_;refine awK ?_;simp only [F15,seval];refine awN ?_;simp only [F15,seval,hat,aT];repeat refine ob ?_
     refine awN ?_;simp only [F15,seval,hc];refine awR [] [0,0,0,65,65,65,65,72,72,72,72,72,65,0,0] ?_;simp only [F15,seval,];refine awF ?_;refine awR [] [0,0,93,93,93,0,0] ?_;simp only [F15,seval,hcap];refine awF ?_;refine awR [] [0,0,0,109,109,109,109,0,0] ?_;simp only [F15,seval];refine ⟨_,hS,rfl,?_⟩;simp only [aq,F15,seval,hsg];refine awT ?_;refine awN ?_;simp only [F15,seval];have hR:dq tk l=7:=by rw [←hL];simp [hc,hcap,hsg]
     refine awX ?_;simp only [F15,seval,hR]
    repeat' first|apply awS|apply awB
    refine awN ?_;simp only [F15,seval,hI];refine awT ?_;refine awK ?_;simp only [F15,seval];refine awN ?_;simp only [F15,seval,hat,aT];repeat refine ob ?_
    refine awN ?_;simp only [F15,seval,hc];refine awR [] [0,0,0,65,65,65,65,72,72,72,72,72,65,0,0] ?_;simp only [F15,seval,];refine awF ?_;refine awR [] [0,0,93,93,93,0,0] ?_;simp only [F15,seval,hcap];refine awF ?_;refine awR [] [0,0,0,109,109,109,109,0,0] ?_;simp only [F15,seval];refine ⟨_,hS,rfl,?_⟩;simp only [aq,F15,seval,hsg];refine awF ?_;refine awR [] [0,0,0,127,127,127,127,127,0,0] ?_;simp only [F15,seval];refine awF ?_;refine awK ?_;simp only [F15,seval];refine awN ?_;simp only [F15,seval];repeat refine ob ?_
    refine ⟨_,aH [1,19,20,21] [],l.length-(k+1),by omega,k+1,nx+1,by omega,rfl,?_,?_⟩
    ·rw [←hL];simp [hc,hcap,hsg]
    simp only [F15,seval];try rfl
   by_cases p1:p.claim<0
   ·repeat' first|apply awS|apply awB
    refine awN ?_;simp only [F15,seval,hI];refine awT ?_;refine awK ?_;simp only [F15,seval];refine awN ?_;simp only [F15,seval,hat,aT];repeat refine ob ?_
    refine awN ?_;simp only [F15,seval,hc];refine awR [] [0,0,0,65,65,65,65,72,72,72,72,72,65,0,0] ?_;simp only [F15,seval,p1];refine awT ?_;refine awN ?_;simp only [F15,seval];have hR:dq tk l=1:=by rw [←hL];simp [hc,p1]
    refine awX ?_;simp only [F15,seval,hR]
   by_cases p2:(tk.length:Int)<=p.claim
   ·repeat' first|apply awS|apply awB
    refine awN ?_;simp only [F15,seval,hI];refine awT ?_;refine awK ?_;simp only [F15,seval];refine awN ?_;simp only [F15,seval,hat,aT];repeat refine ob ?_
    refine awN ?_;simp only [F15,seval,hc];refine awR [] [0,0,0,65,65,65,65,72,72,72,72,72,65,0,0] ?_;simp only [F15,seval,p1,p2];refine awT ?_;refine awN ?_;simp only [F15,seval];have hR:dq tk l=1:=by rw [←hL];simp [hc,p2]
    refine awX ?_;simp only [F15,seval,hR]
   have a1:=Jo vI tk p.claim false (by omega) (by omega);rw [Nat.mul_one] at a1;generalize hget:tk.getD p.claim.toNat false=bt at *
   cases hcap:p.capped
   ·cases bt
    ·repeat' first|apply awS|apply awB
     refine awN ?_;simp only [F15,seval,hI];refine awT ?_;refine awK ?_;simp only [F15,seval];refine awN ?_;simp only [F15,seval,hat,aT];repeat refine ob ?_
     refine awN ?_;simp only [F15,seval,hc];refine awR [] [0,0,0,65,65,65,65,72,72,72,72,72,65,0,0] ?_;simp only [F15,seval,p1,p2];refine awF ?_;refine awR [] [0,0,93,93,93,0,0] ?_;simp only [F15,seval,hcap];refine awF ?_;refine awR [] [0,0,0,109,109,109,109,0,0] ?_;simp only [F15,seval];refine awF ?_;refine awR [] [0,0,0,127,127,127,127,127,0,0] ?_;simp only [F15,seval,a1,cB];repeat refine ob ?_
     refine awF ?_;refine awK ?_;simp only [F15,seval];refine awN ?_;simp only [F15,seval];repeat refine ob ?_
     refine ⟨_,aH [1,19,20,21] [],l.length-(k+1),by omega,k+1,nx+1,by omega,rfl,?_,?_⟩
     ·rw [←hL];simp [hc,p1,p2,hcap]
     simp only [F15,seval];try rfl
    repeat' first|apply awS|apply awB
    refine awN ?_;simp only [F15,seval,hI];refine awT ?_;refine awK ?_;simp only [F15,seval];refine awN ?_;simp only [F15,seval,hat,aT];repeat refine ob ?_
    refine awN ?_;simp only [F15,seval,hc];refine awR [] [0,0,0,65,65,65,65,72,72,72,72,72,65,0,0] ?_;simp only [F15,seval,p1,p2];refine awF ?_;refine awR [] [0,0,93,93,93,0,0] ?_;simp only [F15,seval,hcap];refine awF ?_;refine awR [] [0,0,0,109,109,109,109,0,0] ?_;simp only [F15,seval];refine awF ?_;refine awR [] [0,0,0,127,127,127,127,127,0,0] ?_;simp only [F15,seval,a1,cB];repeat refine ob ?_
    refine awT ?_;refine awN ?_;simp only [F15,seval];have hR:dq tk l=20:=by rw [←hL];simp [hc,p1,p2,hcap]
    refine awX ?_;simp only [F15,seval,hR]
   by_cases hsg:aL (qOf p.cap)<0
   ·repeat' first|apply awS|apply awB
    refine awN ?_;simp only [F15,seval,hI];refine awT ?_;refine awK ?_;simp only [F15,seval];refine awN ?_;simp only [F15,seval,hat,aT];repeat refine ob ?_
    refine awN ?_;simp only [F15,seval,hc];refine awR [] [0,0,0,65,65,65,65,72,72,72,72,72,65,0,0] ?_;simp only [F15,seval,p1,p2];refine awF ?_;refine awR [] [0,0,93,93,93,0,0] ?_;simp only [F15,seval,hcap];refine awF ?_;refine awR [] [0,0,0,109,109,109,109,0,0] ?_;simp only [F15,seval];refine ⟨_,hS,rfl,?_⟩;simp only [aq,F15,seval,hsg];refine awT ?_;refine awN ?_;simp only [F15,seval];have hR:dq tk l=7:=by rw [←hL];simp [hc,p1,p2,hcap,hsg]
    refine awX ?_;simp only [F15,seval,hR]
   cases bt
   ·repeat' first|apply awS|apply awB
    refine awN ?_;simp only [F15,seval,hI];refine awT ?_;refine awK ?_;simp only [F15,seval];refine awN ?_;simp only [F15,seval,hat,aT];repeat refine ob ?_
    refine awN ?_;simp only [F15,seval,hc];refine awR [] [0,0,0,65,65,65,65,72,72,72,72,72,65,0,0] ?_;simp only [F15,seval,p1,p2];refine awF ?_;refine awR [] [0,0,93,93,93,0,0] ?_;simp only [F15,seval,hcap];refine awF ?_;refine awR [] [0,0,0,109,109,109,109,0,0] ?_;simp only [F15,seval];refine ⟨_,hS,rfl,?_⟩;simp only [aq,F15,seval,hsg];refine awF ?_;refine awR [] [0,0,0,127,127,127,127,127,0,0] ?_;simp only [F15,seval,a1,cB];repeat refine ob ?_
    refine awF ?_;refine awK ?_;simp only [F15,seval];refine awN ?_;simp only [F15,seval];repeat refine ob ?_
    refine ⟨_,aH [1,19,20,21] [],l.length-(k+1),by omega,k+1,nx+1,by omega,rfl,?_,?_⟩
    ·rw [←hL];simp [hc,p1,p2,hcap,hsg]
    simp only [F15,seval];try rfl
   repeat' first|apply awS|apply awB
   refine awN ?_;simp only [F15,seval,hI];refine awT ?_;refine awK ?_;simp only [F15,seval];refine awN ?_;simp only [F15,seval,hat,aT];repeat refine ob ?_
   refine awN ?_;simp only [F15,seval,hc];refine awR [] [0,0,0,65,65,65,65,72,72,72,72,72,65,0,0] ?_;simp only [F15,seval,p1,p2];refine awF ?_;refine awR [] [0,0,93,93,93,0,0] ?_;simp only [F15,seval,hcap];refine awF ?_;refine awR [] [0,0,0,109,109,109,109,0,0] ?_;simp only [F15,seval];refine ⟨_,hS,rfl,?_⟩;simp only [aq,F15,seval,hsg];refine awF ?_;refine awR [] [0,0,0,127,127,127,127,127,0,0] ?_;simp only [F15,seval,a1,cB];repeat refine ob ?_
   refine awT ?_;refine awN ?_;simp only [F15,seval];have hR:dq tk l=20:=by rw [←hL];simp [hc,p1,p2,hcap,hsg]
   refine awX ?_;simp only [F15,seval,hR]
  obtain rfl:k=l.length:=by omega
  have hI:¬(l.length:Int)<(l.length:Int):=by omega
  rw [List.drop_length] at hL;simp only [dq] at hL;refine awN ?_;simp only [F15,seval,hI];refine awF ?_;refine awQ ?_;simp only [F15,seval];refine awN ?_;simp only [F15,seval];refine awX ?_;simp only [F15,seval,←hL]
 rw [hany] at hCF;refine awN ?_;simp only [F15,seval,aU];refine awR [] [0,0,0,0,0,26,26,26,0] ?_;simp only [F15,seval,hI];refine ⟨ab cA a,_,hCF,rfl,?_⟩;simp only [aq,F15,seval];refine awT ?_;refine awN ?_;simp only [F15,seval];refine awX ?_;simp only [F15,seval]
def cO (q:GRat):Prop:=q.num.size<=500000000000/\q.den.size<=500000000000
def vJ (e:GEst):Prop:=cO e.cash/\(∀c∈e.claims,cO c.amount)/\e.claims.length<=1000000000000/\∀a∈e.agrs,(∀t∈a,t.length<=1000000000000)/\∀p∈a.flatten,cO p.cap
noncomputable def bw:List GClaim->Int
 |[]=>0
 |c::l=>if c.holder< -1∨8<=c.holder then 19 else if c.rank<0∨7<c.rank then 1 else if aL (qOf c.amount)<0 then 7 else bw l
def mh (tk:List Bool):List Int->List Bool
 |[]=>tk
 |i::l=>mh (tk.set i.toNat true) l
theorem ic:∀(l:List Int) (tk:List Bool),(mh tk l).length=tk.length
 |[],_=>rfl
 |i::l,tk=>by rw [mh,ic l,List.length_set]
noncomputable def ie (tk:List Bool):List cw->Int
 |[]=>0
 |a::l=>if fY a tk≠0 then fY a tk else ie (mh tk (mem a)) l
noncomputable def jb (e:GEst):Int:=if 24<e.claims.length∨12<e.agrs.length then 2 else if aL (qOf e.cash)<0 then 7 else if bw e.claims≠0 then bw e.claims
 else ie (List.replicate e.claims.length false) e.agrs
theorem gJ {d:Array Int} {x:Int}:∀m,m<=d.size->x∈Lib.compactUpTo d m->x∈d.toList
 |0,_,h=>by simp [Lib.compactUpTo] at h
 |m+1,hm,h=>by
  rw [Lib.compactUpTo_succ,List.mem_append] at h;rcases h with h|h
  ·exact gJ m (by omega) h
  split at h
  ·simp only [List.mem_singleton] at h;subst h;rw [getElem!_pos d m (by omega)];simp
  cases h
theorem se {a:cw} {i:Int} (h:i∈mem a):i∈dI a.flatten:=by
 have h1:=gJ _ (by simp) h;simpa [Gb] using h1
theorem nV:∀{l:List GPart} {i:Int},i∈dI l->∃p∈l,p.claim=i/\p.claim≠ -1
 |p::l,i,h=>by
  simp only [dI] at h;by_cases hc:p.claim= -1
  ·rw [if_pos hc] at h;obtain ⟨q,h1,h2⟩:=nV h;exact ⟨q,List.mem_cons_of_mem _ h1,h2⟩
  rw [if_neg hc] at h;rcases List.mem_cons.1 h with rfl|h
  ·exact ⟨p,by simp,rfl,hc⟩
  obtain ⟨q,h1,h2⟩:=nV h;exact ⟨q,List.mem_cons_of_mem _ h1,h2⟩
theorem mS {tk:List Bool}:∀{l:List GPart},dq tk l=0->∀p∈l,p.claim≠ -1->0<=p.claim/\p.claim<tk.length
 |q::l,h,p,hp,hc=>by
  simp only [dq] at h;split at h
  ·cases h
  rename_i h1;split at h
  ·cases h
  split at h
  ·cases h
  split at h
  ·cases h
  rcases List.mem_cons.1 hp with rfl|hp
  ·have:=fun h2=>h1 ⟨hc,h2⟩
   omega
  exact mS h p hp hc
theorem mT {a:cw} {tk:List Bool} (h:fY a tk=0):a.length<=24/\a.flatten.length<=576/\∀i∈mem a,0<=i/\i<tk.length:=by
 unfold fY at h;split at h
 ·cases h
 rename_i h1;have h2:a.any eB=false:=by simpa using fun h=>h1 (.inr h)
 have h3:=fZ a h2;refine ⟨by omega,by omega,fun i hi=>?_⟩;obtain ⟨p,k1,k2,k3⟩:=nV (se hi);subst k2;exact mS h p k1 k3
theorem qW (a:cw):(mem a).length<=a.flatten.length:=by
 have h1:=Lib.compact_length_le (Gb (dI a.flatten));have h2:∀l:List GPart,(dI l).length<=l.length:=fun l=>by
  induction l with
  |nil=>simp [dI]
  |cons p l ih=>simp only [dI];split<;>simp<;>omega
 have h3:=h2 a.flatten;rw [dH] at h1;exact Nat.le_trans h1 h3
theorem yW (tk:List Bool) (k:Nat) (h:k<tk.length):spl (ar cB tk) k [.lit (.bool true)]=ar cB (tk.set k true):=by
 induction tk generalizing k with
 |nil=>simp at h
 |cons b tk ih=>
  cases k with
  |zero=>simp [aY,cB,jQ,nI]
  |succ k=>simp only [aY,cB,List.cons_append,List.nil_append,lC,List.set_cons_succ];rw [ih k (by simpa using h)]
theorem xz (n:Nat):eA n [C.lit (.bool false)]=ar cB (List.replicate n false):=by
 induction n with
 |zero=>rfl
 |succ n ih=>rw [mL,List.replicate_succ,aY,ih];rfl
def F16:=And.intro zS (And.intro yE (And.intro Jy (And.intro yD (And.intro yF (And.intro zw (And.intro pj (And.intro jU (And.intro tf7 (And.intro u7 (And.intro I0 (And.intro u9 (And.intro yG (And.intro pk (And.intro zA (And.intro zB (And.intro tx (And.intro pn (And.intro nK (And.intro jS (And.intro xi (And.intro xd (And.intro nL (And.intro po (nM))))))))))))))))))))))))
theorem F17:type_of%F16:=F16
theorem vK (g:GEst) (hg:vJ g):ch prog 34 [.agg (bh g)] (one (.int .i64 (jb g))):=by
 obtain ⟨⟨hq1,hq2⟩,hcl,hcn,hag⟩:=hg;have hS0:=rR g.cash hq1 hq2;unfold jb;refine bF func34 rfl (by decide) (N:=87) rfl (by simp) (R:=[.tmp 2]) rfl fun en k0=>?_
 refine awN ?_;simp only [F17,seval,bh];by_cases h24:24<g.claims.length
 ·have hI:(24:Int)<(g.claims.length:Int):=by omega
  refine awR [] [0,0,0,0,0,34,34,34,34,0,0] ?_;simp only [F17,seval,hI];refine awT ?_;refine awN ?_;simp only [F17,seval];refine awX ?_;simp only [F17,seval,h24]
 have hI24:¬(24:Int)<(g.claims.length:Int):=by omega
 by_cases h12:12<g.agrs.length
 ·have hI:(12:Int)<(g.agrs.length:Int):=by omega
  refine awR [] [0,0,0,0,0,34,34,34,34,0,0] ?_;simp only [F17,seval,hI24,hI];refine awT ?_;refine awN ?_;simp only [F17,seval];refine awX ?_;simp only [F17,seval,h12]
 have hI12:¬(12:Int)<(g.agrs.length:Int):=by omega
 by_cases hq:aL (qOf g.cash)<0
 ·repeat' first|apply awS|apply awB
  refine awR [] [0,0,0,0,0,34,34,34,34,0,0] ?_;simp only [F17,seval,hI24,hI12];refine awF ?_;refine awN ?_;simp only [F17,seval];refine ⟨_,hS0,rfl,?_⟩;simp only [aq,F17,seval,hq];refine awT ?_;refine awN ?_;simp only [F17,seval];refine awX ?_;simp only [F17,seval,h24,h12,or_self]
 refine awR [] [0,0,0,0,0,34,34,34,34,0,0] ?_;simp only [F17,seval,hI24,hI12];refine awF ?_;refine awN ?_;simp only [F17,seval];refine ⟨_,hS0,rfl,?_⟩;simp only [aq,F17,seval,hq];refine awF ?_;refine awK ?_;simp only [F17,seval];refine awN ?_;simp only [F17,seval];refine aQ [1,28,29,30] [1] ?_;simp only [F17,seval];refine eY (M:=fun st=>bw g.claims=0/\∃nx,st=⟨mkT [(1,.val (.one (.ptr 1 0 0)))],mkH [(1,⟨0,36,5,1,bh g⟩)],nx,0⟩) ?_ ?_
 ·repeat' first|apply awS|apply awB
  refine aB (fun n st=>∃k nx,k<=g.claims.length/\n=g.claims.length-k/\bw (g.claims.drop k)=bw g.claims/\st=⟨mkT [(1,.val (.one (.ptr 1 0 0))),(28,.val (.one (.sh 5 g.claims.length (ar aA g.claims)))),(29,one (.int .i64 g.claims.length)),(30,one (.int .i64 k))],mkH [(1,⟨0,36,5,1,bh g⟩)],nx,0⟩) g.claims.length ⟨0,_,by omega,by omega,rfl,rfl⟩ ?_;rintro n st ⟨k,nx,hk,rfl,hL,rfl⟩;generalize hcc:g.claims=cl at *
  by_cases hlt:k<cl.length
  ·have hI:(k:Int)<(cl.length:Int):=by omega
   have hat:=aO bX cl k hlt;rw [List.drop_eq_getElem_cons hlt] at hL;have hS:=rR cl[k].amount (hcl _ (List.getElem_mem hlt)).1 (hcl _ (List.getElem_mem hlt)).2;generalize cl[k]=c at *
   simp only [bw] at hL;by_cases p1:c.holder< -1
   ·repeat' first|apply awS|apply awB
    refine awN ?_;simp only [F17,seval,hI];refine awT ?_;refine awK ?_;simp only [F17,seval];refine awN ?_;simp only [F17,seval,hat,aA];repeat refine ob ?_
    refine awR [] [0,0,0,0,78,78,78,0,0] ?_;simp only [F17,seval,p1];refine awT ?_;refine awN ?_;simp only [F17,seval];have hR:bw cl=19:=by rw [←hL];simp [p1]
    refine awX ?_;simp only [F17,seval,h24,h12,or_self,hR,Int.reduceEq]
   by_cases p2:8<=c.holder
   ·repeat' first|apply awS|apply awB
    refine awN ?_;simp only [F17,seval,hI];refine awT ?_;refine awK ?_;simp only [F17,seval];refine awN ?_;simp only [F17,seval,hat,aA];repeat refine ob ?_
    refine awR [] [0,0,0,0,78,78,78,0,0] ?_;simp only [F17,seval,p1,p2];refine awT ?_;refine awN ?_;simp only [F17,seval];have hR:bw cl=19:=by rw [←hL];simp [p2]
    refine awX ?_;simp only [F17,seval,h24,h12,or_self,hR,Int.reduceEq]
   by_cases p3:c.rank<0
   ·repeat' first|apply awS|apply awB
    refine awN ?_;simp only [F17,seval,hI];refine awT ?_;refine awK ?_;simp only [F17,seval];refine awN ?_;simp only [F17,seval,hat,aA];repeat refine ob ?_
    refine awR [] [0,0,0,0,78,78,78,0,0] ?_;simp only [F17,seval,p1,p2];refine awF ?_;refine awR [] [0,0,0,0,96,96,96,0,0] ?_;simp only [F17,seval,p3];refine awT ?_;refine awN ?_;simp only [F17,seval];have hR:bw cl=1:=by rw [←hL];simp [p1,p2,p3]
    refine awX ?_;simp only [F17,seval,h24,h12,or_self,hR,Int.reduceEq]
   by_cases p4:7<c.rank
   ·repeat' first|apply awS|apply awB
    refine awN ?_;simp only [F17,seval,hI];refine awT ?_;refine awK ?_;simp only [F17,seval];refine awN ?_;simp only [F17,seval,hat,aA];repeat refine ob ?_
    refine awR [] [0,0,0,0,78,78,78,0,0] ?_;simp only [F17,seval,p1,p2];refine awF ?_;refine awR [] [0,0,0,0,96,96,96,0,0] ?_;simp only [F17,seval,p3,p4];refine awT ?_;refine awN ?_;simp only [F17,seval];have hR:bw cl=1:=by rw [←hL];simp [p1,p2,p4]
    refine awX ?_;simp only [F17,seval,h24,h12,or_self,hR,Int.reduceEq]
   by_cases hsg:aL (qOf c.amount)<0
   ·repeat' first|apply awS|apply awB
    refine awN ?_;simp only [F17,seval,hI];refine awT ?_;refine awK ?_;simp only [F17,seval];refine awN ?_;simp only [F17,seval,hat,aA];repeat refine ob ?_
    refine awR [] [0,0,0,0,78,78,78,0,0] ?_;simp only [F17,seval,p1,p2];refine awF ?_;refine awR [] [0,0,0,0,96,96,96,0,0] ?_;simp only [F17,seval,p3,p4];refine awF ?_;refine awN ?_;simp only [F17,seval];refine ⟨_,hS,rfl,?_⟩;simp only [aq,F17,seval,hsg];refine awT ?_;refine awN ?_;simp only [F17,seval];have hR:bw cl=7:=by rw [←hL];simp [p1,p2,p3,p4,hsg]
    refine awX ?_;simp only [F17,seval,h24,h12,or_self,hR,Int.reduceEq]
   repeat' first|apply awS|apply awB
   refine awN ?_;simp only [F17,seval,hI];refine awT ?_;refine awK ?_;simp only [F17,seval];refine awN ?_;simp only [F17,seval,hat,aA];repeat refine ob ?_
   refine awR [] [0,0,0,0,78,78,78,0,0] ?_;simp only [F17,seval,p1,p2];refine awF ?_;refine awR [] [0,0,0,0,96,96,96,0,0] ?_;simp only [F17,seval,p3,p4];refine awF ?_;refine awN ?_;simp only [F17,seval];refine ⟨_,hS,rfl,?_⟩;simp only [aq,F17,seval,hsg];refine awF ?_;refine awK ?_;simp only [F17,seval];refine awN ?_;simp only [F17,seval];repeat refine ob ?_
   refine ⟨_,aH [1,28,29,30] [1],cl.length-(k+1),by omega,k+1,nx+1,by omega,rfl,?_,?_⟩
   ·rw [←hL];simp [p1,p2,p3,p4,hsg]
   simp only [F17,seval];try rfl
  obtain rfl:k=cl.length:=by omega
  have hI:¬(cl.length:Int)<(cl.length:Int):=by omega
  rw [List.drop_length] at hL;simp only [bw] at hL;refine awN ?_;simp only [F17,seval,hI];refine awF ?_;refine awQ ?_;simp only [F17,seval];refine ⟨_,aH [1] [1],hL.symm,nx,?_⟩;simp only [F17,seval]
 rintro st ⟨hw0,nx,rfl⟩;simp only [h24,h12,or_self,if_false,hw0,ne_eq,not_true_eq_false];refine awN ?_;simp only [F17,seval,bh];repeat refine ob ?_
 refine awN ?_;simp only [F17,seval];refine aQ [5,63,64,65] [61] ?_;simp only [F17,seval,xz];repeat' first|apply awS|apply awB
 refine aB (fun n st=>∃k nx s tk,k<=g.agrs.length/\n=g.agrs.length-k/\tk.length=g.claims.length/\ie tk (g.agrs.drop k)=ie (List.replicate g.claims.length false) g.agrs/\st=⟨mkT [(5,.val (.one (.own 61 s tk.length 1))),(63,.val (.one (.sh 1 g.agrs.length (ar aU g.agrs)))),(64,one (.int .i64 g.agrs.length)),(65,one (.int .i64 k))],mkH [(61,⟨s,4,1,tk.length,ar cB tk⟩)],nx,0⟩) g.agrs.length ⟨0,_,_,List.replicate g.claims.length false,by omega,by omega,by simp,rfl,by simp only [List.length_replicate];rfl⟩ ?_;rintro n st ⟨k,nx,s,tk,hk,rfl,htk,hL,rfl⟩;by_cases hlt:k<g.agrs.length
 ·have hI:(k:Int)<(g.agrs.length:Int):=by omega
  have hat:=aO dG g.agrs k hlt;rw [Nat.mul_one] at hat;rw [List.drop_eq_getElem_cons hlt] at hL;obtain ⟨ha1,ha2⟩:=hag g.agrs[k] (List.getElem_mem hlt);generalize g.agrs[k]=a at *
  have hCA:=j0 a tk ha1 (by omega) ha2;simp only [ie] at hL;by_cases he:fY a tk=0
  ·obtain ⟨b1,b2,b3⟩:=mT he;have hM:=tK a (by omega) (by omega);have hml:=qW a;rw [if_neg (by simp [he])] at hL;refine awN ?_;simp only [F17,seval,hI];refine awT ?_;refine awK ?_;simp only [F17,seval];refine awN ?_;simp only [F17,seval,hat,aU];repeat refine ob ?_
   refine awN ?_;simp only [F17,seval,ab cA,ab KM];refine ⟨_,hCA,rfl,?_⟩;simp only [aq,F17,seval,he];refine awN ?_;simp only [F17,seval];refine awF ?_;refine awK ?_;simp only [F17,seval];refine awN ?_;simp only [F17,seval,ab cA];refine ⟨_,hM,by simp [av,az,ab rV],?_⟩;simp only [aq,F17,seval];refine aQ [5,63,64,65,76,77,78] [61] ?_;simp only [F17,seval];repeat' first|apply awS|apply awB
   refine aB (fun n st=>∃j nx tk2,j<=(mem a).length/\n=(mem a).length-j/\tk2.length=g.claims.length/\mh tk2 ((mem a).drop j)=mh tk (mem a)/\st=⟨mkT [(5,.val (.one (.own 61 s tk2.length 1))),(63,.val (.one (.sh 1 g.agrs.length (ar aU g.agrs)))),(64,one (.int .i64 g.agrs.length)),(65,one (.int .i64 k)),(76,.val (.one (.sh 1 (mem a).length (ar cI (mem a))))),(77,one (.int .i64 (mem a).length)),(78,one (.int .i64 j))],mkH [(61,⟨s,4,1,tk2.length,ar cB tk2⟩)],nx,0⟩) (mem a).length ⟨0,_,tk,by omega,by omega,htk,rfl,rfl⟩ ?_;rintro n2 st ⟨j,nx2,tk2,hj,rfl,htk2,hm,rfl⟩;have hlen:=aS vI tk2;rw [Nat.mul_one] at hlen;by_cases hjt:j<(mem a).length
   ·have hJ:(j:Int)<((mem a).length:Int):=by omega
    have hat2:=aO qP (mem a) j hjt;rw [Nat.mul_one] at hat2;rw [List.drop_eq_getElem_cons hjt] at hm;have hb:=b3 _ (List.getElem_mem hjt);generalize (mem a)[j]=i at *
    have hset:=yW tk2 i.toNat (by omega);refine awN ?_;simp only [F17,seval,hJ];refine awT ?_;refine awK ?_;simp only [F17,seval];refine awN ?_;simp only [F17,seval,hat2,cI];repeat refine ob ?_
    refine awN ?_;simp only [F17,seval,hset,hlen];repeat refine ob ?_
    refine awN ?_;simp only [F17,seval];repeat refine ob ?_
    refine ⟨_,aH [5,63,64,65,76,77,78] [61],(mem a).length-(j+1),by omega,j+1,nx2,tk2.set i.toNat true,by omega,rfl,by simpa using htk2,hm,?_⟩;simp only [F17,seval,List.length_set];try rfl
   obtain rfl:j=(mem a).length:=by omega
   have hJ:¬((mem a).length:Int)<((mem a).length:Int):=by omega
   rw [List.drop_length] at hm;simp only [mh] at hm;refine awN ?_;simp only [F17,seval,hJ];refine awF ?_;refine awQ ?_;simp only [F17,seval];refine awN ?_;simp only [F17,seval];repeat refine ob ?_
   refine ⟨_,aH [5,63,64,65] [61],g.agrs.length-(k+1),by omega,k+1,nx2,s,tk2,by omega,rfl,htk2,?_,?_⟩
   ·rw [hm];exact hL
   simp only [F17,seval];try rfl
  rw [if_pos he] at hL;refine awN ?_;simp only [F17,seval,hI];refine awT ?_;refine awK ?_;simp only [F17,seval];refine awN ?_;simp only [F17,seval,hat,aU];repeat refine ob ?_
  refine awN ?_;simp only [F17,seval,ab cA,ab KM];refine ⟨_,hCA,rfl,?_⟩;simp only [aq,F17,seval];refine awN ?_;simp only [F17,seval,he];refine awT ?_;refine awN ?_;simp only [F17,seval];refine awX ?_;simp only [F17,seval,hL]
 obtain rfl:k=g.agrs.length:=by omega
 have hI:¬(g.agrs.length:Int)<(g.agrs.length:Int):=by omega
 rw [List.drop_length] at hL;simp only [ie] at hL;refine awN ?_;simp only [F17,seval,hI];refine awF ?_;refine awQ ?_;simp only [F17,seval];refine awN ?_;simp only [F17,seval];refine awX ?_;simp only [F17,seval,←hL]
end Go.Proofs.YtcgpghifhehlhaaGreatDoor
