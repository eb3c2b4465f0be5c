/- Sums of numbers, the builder of an estate; walked by the abstract machine. -/
import Derived.Test.YtokmkopihhnggaaGreatDoorWlbM
import Derived.Test.YtokmkopihhnggaaGreatDoorWs2M
import Derived.Test.YtokmkopihhnggaaGreatDoorAbUM
import Derived.Test.YtokmkopihhnggaaGreatDoorWp4M
import Derived.Test.YtokmkopihhnggaaGreatDoorPl3M
import Derived.Test.YtokmkopihhnggaaGreatDoorWs3M
set_option linter.unusedVariables false
set_option maxHeartbeats 4000000
set_option maxRecDepth 100000
set_option linter.unusedSimpArgs false
set_option linter.defProp false
namespace Go.Proofs.YtokmkopihhnggaaGreatDoor
open Go Go.RowKit Go.Proofs.Tryz
def KR:=And.intro zS (And.intro IK (And.intro IL (And.intro J7 (And.intro IM (And.intro IN (And.intro il (And.intro DU (Kh))))))))
theorem GW:type_of%KR:=KR
theorem KS (c:Nat) (list:List N4) (pools:List N3) (hc:c<65536) (hls:∀x∈list,x.a<65536/\x.b<65536/\x.c<65536/\x.d<65536) (hps:∀p∈pools,p.a<65536/\p.b<65536/\p.c<65536) (hl1:list.length<=9223372036854775807) (hp1:pools.length<=9223372036854775807):aU prog 29 [.one (.lit (.int .u16 c)),.one (.sh 4 list.length (ar cN4 list)),.one (.sh 3 pools.length (ar cN3 pools))] (.val (.agg (aI (jS c list pools)))):=by
 refine aT func29 rfl (by decide) (N:=15) rfl (by simp) (R:=[.cell 6 36]) rfl fun en k0=>?_
 refine awN ?_;simp only [GW,seval];have hes:(Gg 0 [c] list pools []).ests=[jS c list pools]:=tL c list pools;have hG:=Gn 0 [c] list pools [] (by decide) (by simpa using hc) hls hps (by simp) (by simp) hl1 hp1 (by simp);generalize hgr:Gg 0 [c] list pools []=gr at *
 have hfe:ar aI [jS c list pools]=aI (jS c list pools)++[]:=rfl;simp only [aI,List.cons_append,List.nil_append] at hfe;simp only [fN,hes,List.length_cons,List.length_nil,hfe] at hG;refine awR [11] [0,0,0,0,0,0,0,0,0] ?_;simp only [GW,seval,aI];refine ⟨_,xU (nm:=8) hG (by simp [a8,aK,al,aw,A1.cells,ab av,ab aB,ab bG]) (by simp [aK,al,aw,A1.cells,ab wP,ab wQ,ab Ce]) (fun e σ w vs hW hx hd=>?_),?_⟩
 ·obtain ⟨v1,vs1,rfl,d1,hd1⟩:=bI hd;obtain ⟨v2,vs2,rfl,d2,hd2⟩:=bI hd1;obtain ⟨v3,vs3,rfl,d3,hd3⟩:=bI hd2;obtain ⟨v4,vs4,rfl,d4,hd4⟩:=bI hd3;obtain ⟨v5,vs5,rfl,d5,hd5⟩:=bI hd4;exact ⟨ja hx d1,Fq (B:=⟨1,57,1,1,ar wO [c]⟩) hW d2 (by rfl) rfl (by show (1:Nat)≠0;decide),ja hx d3,ja hx d4,lp 3 (ja (a:= .one (.lit (.slice none 0 0))) hx d5),(by cases vs5 with|nil=>exact trivial|cons v vs=>exact hd5.elim)⟩
 rintro res H' nx' ⟨rfl,rfl,rfl⟩;simp only [GW,seval,(id SD)];refine awX ?_;simp only [GW,seval];try rfl
 try exact ⟨ab av _,ab aB _⟩
structure grP (e:GEst) (g:List Rat) (i k:Nat) (hi:i<e.claims.length) (hk:k<e.claims.length) (hgi:i<g.length) (hgk:k<g.length):Prop where
 nn:¬cr g[i]<0
 le:¬0<dQ g[i] (qOf e.claims[i].amount)
 sen:e.claims[i].rank<e.claims[k].rank->0<cr g[k]->g[i]=qOf e.claims[i].amount
 par:e.claims[i].rank=e.claims[k].rank->g[i]*qOf e.claims[k].amount=g[k]*qOf e.claims[i].amount
def ipP (c:Int):List GPart->Bool
 |[]=>false
 |p::l=>if p.claim=c then true else ipP c l
def ipT (c:Int):List (List GPart)->Bool
 |[]=>false
 |t::l=>if ipP c t=true then true else ipT c l
def ipA (c:Int):List bP->Bool
 |[]=>false
 |a::l=>if ipT c a=true then true else ipA c l
structure dlP (e:GEst) (l g:List Rat) (i:Nat) (hi:i<e.claims.length) (hl:i<l.length) (hg:i<g.length):Prop where
 nn:¬cr l[i]<0
 le:¬0<dQ l[i] (qOf e.claims[i].amount)
 out:ipA (i:Int) e.agrs=false->l[i]=g[i]
structure dlQ (l g:Rat) (ip:Bool) (a:GClaim):Prop where
 nn:¬cr l<0
 le:¬0<dQ l (qOf a.amount)
 out:ip=false->l=g
theorem HJ:kU 6 1<=703900:=by decide
theorem HW:kG 6 1 (kB 6 1)<=40000000/\kY 6 1 (kB 6 1)<=40000000000/\kG 6 1 (kB 6 1)+(2*600)*(kY 6 1 (kB 6 1)+1)<=50000000000:=by decide
theorem JE {e:GEst} {M:Nat} (hI:eIn e 1 M 6 2) (h0:bS e=0) {x:Rat} (hx:0<=x) (ho:bd (ay e).ranks x):qB 703900 (x+bJ (ay e) x):=by
 have hW:=kL h0;exact (Hs hW hI.s hI.k0 hI.hnc hI.nc2 hI.hna HW hx ho).mono HJ
theorem Fr (e:GEst) (m:GRat) (hI:eIn e 1 704000 6 2) (hm:sB 704000 m):aU prog 37 [.agg (aI e),.agg (ai m)] (neR e (cL m)):=
 GM e m 1 704000 6 2 hI hm (by decide) (Nat.le_trans HJ (by decide)) HW
theorem KT (q:Rat):aU prog 98 [.agg (ai (enc q))] (.val (.agg (ai (enc (-q))))):=by
 rw [←pG];exact bf (b8 func98 (by decide) (by kernel_rfl)) [aE (enc q)] (aE (oW (enc q))) fun w=>lL (enc q) w
def CF (x:Nat):Rat:=if x%2=1 then -(eA (x/2)) else eA (x/2)
theorem JF (x:Nat):qB 1 (CF x):=by
 unfold CF;split
 ·exact (uf _).neg
 exact uf _
def KU:=And.intro zS (And.intro cG (d7))
theorem rK:type_of%KU:=KU
theorem Fs (x:Nat) (hx:x<65536):aU prog 47 [.one (.lit (.int .u16 x))] (.val (.agg (ai (enc (CF x))))):=by
 refine aT func47 rfl (by decide) (N:=13) rfl (by simp) (R:=[.cell 2 32]) rfl fun en k0=>?_
 refine awN ?_;simp only [rK,seval,ai];have w0:IntKind.u16.wrap ((x:Int).tdiv 2)=((x/2:Nat):Int):=by have:=yR (x/2) (by omega);rw [←this];norm_cast
 have w1:((x:Nat):Int).tmod 2=((x%2:Nat):Int):=oM x 2;have hA:=gS (x/2) (by omega);simp only [ai] at hA;refine awN ?_;simp only [rK,seval,w0];refine ⟨_,hA,rfl,?_⟩;try simp only [ak,rK,seval]
 by_cases ho:((x%2:Nat):Int)=1
 ·skip;refine awN ?_;simp only [rK,seval,ho,w1];refine awT ?_;have hO:=KT (eA (x/2));simp only [ai] at hO;refine awN ?_;simp only [rK,seval];refine ⟨_,hO,rfl,?_⟩;try simp only [ak,rK,seval]
  refine awX ?_;simp only [rK,seval];have hx:x%2=1:=by omega
  simp [CF,hx]
 skip;refine awN ?_;simp only [rK,seval,ho,w1];refine awF ?_;refine awK ?_;simp only [rK,seval];refine awN ?_;simp only [rK,seval];refine awX ?_;simp only [rK,seval];have hx:¬x%2=1:=by omega
 simp [CF,hx]
def KV:=And.intro zS (And.intro il (And.intro cG (And.intro J8 (d7))))
theorem eX:type_of%KV:=KV
theorem Ft (e:GEst) (r:GRat) (hI:eIn e 1 704000 6 2) (hI2:ku e) (h0:bS e=0) (hr:sB 704000 r) (hgr:rGr e 704000) (hde:rDe e 704000):aU prog 46 [.agg (aI e),.agg (ai r)] (one (.bool true)):=by
 refine aT func46 rfl (by decide) (N:=147) rfl (by simp) (R:=[.tmp 4]) rfl fun en k0=>?_
 refine awN ?_;simp only [eX,seval,aI,ai];have hT:=Fe e 1 704000 6 2 hI;simp only [ttR,h0,if_true,ai] at hT;refine awN ?_;simp only [eX,seval,ab av,ab aB];refine ⟨_,hT,(by first|rfl|simp [a8,aK,al,aw,A1.cells,ab aq,ab av,ab aB]),?_⟩;try simp only [ak,eX,seval]
 have hT2:=CA e 1 hI2 (by have:=hI.hnc;omega) hI.s.2.1 (by decide) (by decide);simp only [ttR,h0,if_true,ai] at hT2;refine awN ?_;simp only [eX,seval,ab av,ab aB];refine ⟨_,hT2,(by first|rfl|simp [a8,aK,al,aw,A1.cells,ab aq,ab av,ab aB]),?_⟩;try simp only [ak,eX,seval]
 have hG:=Ff e r 1 704000 6 2 hI hr;simp only [grR,h0,if_true,ai] at hG;refine awN ?_;simp only [eX,seval,ab av,ab aB];refine ⟨_,hG,(by first|rfl|simp [aK,al,aw,A1.cells,ab aq]),?_⟩;try simp only [ak,eX,seval]
 have hG2:=CB e r 704000 hI2 (by decide) (by decide) hr (fun _=>hgr);simp only [grR,h0,if_true,ai] at hG2;refine awN ?_;simp only [eX,seval,ab av,ab aB];refine ⟨_,hG2,(by first|rfl|simp [aK,al,aw,A1.cells,ab aq]),?_⟩;try simp only [ak,eX,seval]
 have hSR:=fC (aX (ay e) (cL r)) (aX (ay e) (cL r)) e.claims.length (gV e _) (gV e _) (by have:=hI.hnc;omega);rw [(iK rfl).2 rfl] at hSR;have q1:=dL (enc (cx e.claims)) (enc (cx e.claims));have q2:=dM (cx e.claims) (cx e.claims);have q3:decide ((cx e.claims)=(cx e.claims))=true:=by simp
 refine awR [] [0,0,0,0,98,98,98,0,0,108,108,108,108,0,0,120,120,120,0] ?_;simp only [eX,seval,ab aq,q1,q2];refine ⟨_,hSR,(by first|rfl|simp [a8,aK,al,aw,A1.cells,ab aq,ab av,ab aB]),?_⟩;try simp only [ak,eX,seval]
 refine awF ?_;refine awK ?_;simp only [eX,seval];have hD:=rD e r 1 704000 6 2 hI hr;simp only [dlR,h0,if_true,ai] at hD;refine awN ?_;simp only [eX,seval,ab av,ab aB];refine ⟨_,hD,(by first|rfl|simp [aK,al,aw,A1.cells,ab aq]),?_⟩;try simp only [ak,eX,seval]
 have hD2:=xN e r 704000 hI2 (by decide) (by decide) hr (fun _=>hde);simp only [dlR,h0,if_true,ai] at hD2;refine awN ?_;simp only [eX,seval,ab av,ab aB];refine ⟨_,hD2,(by first|rfl|simp [aK,al,aw,A1.cells,ab aq]),?_⟩;try simp only [ak,eX,seval]
 have hSR2:=fC (fo (ay e) (cL r)).cl (fo (ay e) (cL r)).cl e.claims.length (qF _ _) (qF _ _) (by have:=hI.hnc;omega);rw [(iK rfl).2 rfl] at hSR2;have q1:=dL (enc (fo (ay e) (cL r)).rv) (enc (fo (ay e) (cL r)).rv);have q2:=dM (fo (ay e) (cL r)).rv (fo (ay e) (cL r)).rv;have q3:decide ((fo (ay e) (cL r)).rv=(fo (ay e) (cL r)).rv)=true:=by simp
 refine awR [] [0,0,0,0,0,166,166,166,0,0,176,176,176,0] ?_;simp only [eX,seval,ab aq];refine ⟨_,hSR2,(by first|rfl|simp [a8,aK,al,aw,A1.cells,ab aq,ab av,ab aB]),?_⟩;try simp only [ak,eX,seval,q1,q2]
 refine awF ?_;refine awK ?_;simp only [eX,seval];have hS:=Cy e r 1 704000 6 2 hI hr;simp only [slR,h0,if_true,ai] at hS;refine awN ?_;simp only [eX,seval,ab av,ab aB];refine ⟨_,hS,(by first|rfl|simp [aK,al,aw,A1.cells,ab aq]),?_⟩;try simp only [ak,eX,seval]
 have hS2:=zz e r 704000 hI2 (by decide) (by decide) hr (fun _=>hde);simp only [slR,h0,if_true,ai] at hS2;refine awN ?_;simp only [eX,seval,ab av,ab aB];refine ⟨_,hS2,(by first|rfl|simp [aK,al,aw,A1.cells,ab aq]),?_⟩;try simp only [ak,eX,seval]
 have hSR3:=fC (cn (ay e) (cL r)).cl (cn (ay e) (cL r)).cl e.claims.length (d9 _ _) (d9 _ _) (by have:=hI.hnc;omega);rw [(iK rfl).2 rfl] at hSR3;have q1:=dL (enc (cn (ay e) (cL r)).rv) (enc (cn (ay e) (cL r)).rv);have q2:=dM (cn (ay e) (cL r)).rv (cn (ay e) (cL r)).rv;have q3:decide ((cn (ay e) (cL r)).rv=(cn (ay e) (cL r)).rv)=true:=by simp
 refine awR [] [0,0,0,0,0,222,222,222,0,0,232,232,232,0] ?_;simp only [eX,seval,ab aq];refine ⟨_,hSR3,(by first|rfl|simp [a8,aK,al,aw,A1.cells,ab aq,ab av,ab aB]),?_⟩;try simp only [ak,eX,seval,q1,q2]
 refine awF ?_;refine awK ?_;simp only [eX,seval];have hN:=Fr e r hI hr;simp only [neR,h0,if_true,decide_true,Bool.true_and,ai] at hN;refine awN ?_;simp only [eX,seval,ab av,ab aB];refine ⟨_,hN,(by first|rfl|simp [a8,aK,al,aw,A1.cells,ab aq,ab av,ab aB]),?_⟩;try simp only [ak,eX,seval]
 have hN2:=Fm e r 704000 hI2 (by decide) (by decide) hr (fun _=>hde) (fun x hx ho=>(JE hI h0 hx ho).mono (by decide));simp only [neR,h0,if_true,decide_true,Bool.true_and,ai] at hN2;refine awN ?_;simp only [eX,seval,ab av,ab aB];refine ⟨_,hN2,(by first|rfl|simp [a8,aK,al,aw,A1.cells,ab aq,ab av,ab aB]),?_⟩;try simp only [ak,eX,seval]
 have q1:=dL (enc ((fB (ay e) (cL r)).getD 0)) (enc ((fB (ay e) (cL r)).getD 0));have q2:=dM ((fB (ay e) (cL r)).getD 0) ((fB (ay e) (cL r)).getD 0);have q3:decide (((fB (ay e) (cL r)).getD 0)=((fB (ay e) (cL r)).getD 0))=true:=by simp
 refine awR [] [0,0,0,0,277,277,277,0,0,287,287,287,0,0] ?_;simp only [eX,seval,q1,q2,BEq.rfl];refine awX ?_;(first|(simp only [eX,seval];done)|(simp only [eX,seval,aI];first|(simp [];done)))
def KW:=And.intro zS (And.intro il (DU))
theorem r7:type_of%KW:=KW
theorem KX (list:List N4) (pools:List N3) (money:Nat) (hls:yM Gw list) (hps:yM Gx pools) (hm:money<65536):aU prog 11 [.one (.sh 4 list.length (ar cN4 list)),.one (.sh 3 pools.length (ar cN3 pools)),.one (.lit (.int .u16 money))] (one (.bool true)):=by
 have hl1:list.length<=9223372036854775807:=Nat.le_trans hls.1 (by decide);have hp1:pools.length<=9223372036854775807:=Nat.le_trans hps.1 (by decide);refine aT func11 rfl (by decide) (N:=23) rfl (by simp) (R:=[.tmp 6]) rfl fun en k0=>?_
 refine awN ?_;simp only [r7,seval];have hE:=KS 0 list pools (by decide) hls.2 hps.2 hl1 hp1;have hI:=u7 0 list pools (M:=704000) (by decide) (by decide);have hI2:=Fk 0 list pools;have h0:=Bk 0 list pools;have hgr:=GN 0 list pools (M:=704000) (by decide) (by decide);have hde:=GO 0 list pools (M:=704000) (by decide) (by decide);generalize jS 0 list pools=e at *
 simp only [aI] at hE;refine awN ?_;simp only [r7,seval,ab wP,ab wQ];refine ⟨_,hE,(by first|rfl|simp [al,aw,ab av,ab aB]),?_⟩;try simp only [ak,r7,seval]
 have hC:=je e hI.ok;rw [h0] at hC;have hSg:=Fs money hm;have hAg:=Ft e (enc (CF money)) hI hI2 h0 ((dj ((JF money).mono (by decide)))) hgr hde;simp only [aI,ai] at hC hSg hAg;refine awD (scq [0,3,5,6] (scT 4 5 (scq [18,20,23,25] .nil))) [0,0,27,27,27,0,0,37,37,37,37,0,0] ?_;simp only [r7,seval];refine ⟨_,CE,(by first|rfl|simp [a8,aK,al,aw,A1.cells,ab aq,ab av,ab aB]),?_⟩;try simp only [ak,r7,seval,ab av,ab aB]
 refine ⟨_,hC,(by first|rfl|simp [a8,aK,al,aw,A1.cells,ab aq,ab av,ab aB]),?_⟩;try simp only [ak,r7,seval]
 refine ⟨_,hSg,(by first|rfl|simp [a8,aK,al,aw,A1.cells,ab aq,ab av,ab aB]),?_⟩;try simp only [ak,r7,seval,ab av,ab aB]
 refine ⟨_,hAg,(by first|rfl|simp [a8,aK,al,aw,A1.cells,ab aq,ab av,ab aB]),?_⟩;try simp only [ak,r7,seval]
 refine awX ?_;(first|(simp only [r7,seval];done)|(simp only [r7,seval,aI,ai];first|(simp [];done)))
theorem Fu (v0 v1 v2:Value) (list:List N4) (pools:List N3) (money:Nat) (W:World) (o0:rC (cSl 4 cN4) (yM Gw) W (LT W.heap.size) [v0] list) (o1:rC (cSl 3 cN3) (yM Gx) W (LT W.heap.size) [v1] pools) (o2:rC wO (·<65536) W (LT W.heap.size) [v2] money):
  Calls prog 11 #[v0,v1,v2] W fun e w'=>e= .returned (.bool true)/\Below W.heap.size W w':=by
 obtain ⟨h0,k0⟩:=qK o0 rfl;obtain ⟨h1,k1⟩:=qK o1 rfl;obtain ⟨h2,k2⟩:=qK o2 rfl;exact Ci (vs:=[v0,v1,v2]) (KX list pools money k0 k1 k2) ⟨h0,h1,h2,trivial⟩
end Go.Proofs.YtokmkopihhnggaaGreatDoor
