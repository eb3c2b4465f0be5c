/- Sums of numbers, the builder of an estate; walked by the abstract machine. -/
import Derived.Test.YtokmkopihhnggaaGreatDoorWlaM
import Derived.Test.YtokmkopihhnggaaGreatDoorAbUM
import Derived.Test.YtokmkopihhnggaaGreatDoorLGCM
import Derived.Test.YtokmkopihhnggaaGreatDoorPl3M
set_option linter.unusedVariables false
set_option maxHeartbeats 4000000
set_option maxRecDepth 100000
set_option linter.unusedSimpArgs false
set_option linter.defProp false
namespace Go.Proofs.YtokmkopihhnggaaGreatDoor
open Go Go.RowKit Go.Proofs.Tryz
theorem PN (p q:Rat) (m n:Nat) (hp:qB m p) (hq:qB n q) (hm:m<=100000000000) (hn:n<=100000000000):aR prog 77 [.agg (ai (enc p)),.agg (ai (enc q))] (.val (.agg (ai (enc (p+q))))):=
 bj (ch func77 (by decide) (by kernel_rfl)) [aF (enc p),aF (enc q)] (aF (enc (p+q))) fun w=>u7 p q m n w hp hq hm hn
def F68:=And.intro zS (And.intro EB (And.intro EC (And.intro cD (And.intro HW (H5)))))
theorem F69:type_of%F68:=F68
theorem PJ (l:List Rat) (n9:Nat) (hn9:l.length=n9) (G:Nat) (hG:∀x∈l,qB G x) (hGb:G<=50000000000) (hl:l.length<=1000000) (hB:1+l.length*(G+1)<=50000000000):aR prog 35 [.one (.sh 3 n9 (aA cQ l))] (.val (.agg (ai (enc (jk l))))):=by
 subst hn9;refine aP func35 rfl (by decide) (N:=19) rfl (by simp) (R:=[.cell 2 32]) rfl fun en k0=>?_
 refine awN ?_;simp only [F69,seval,ai];refine awN ?_;simp only [F69,seval];refine cm (dz 3 (ai (enc 0)) (by rfl) (by show (3:Nat)≠0;decide) (by rfl) (fun κ vs h=>by rw [bf];exact h)) ?_;simp only [F69,seval];refine awN ?_;simp only [F69,seval,ai];have hq0:qB (1+0*(G+1)) (0:Rat):=bW.mono (by omega);refine aQ [2,3,7,8,9] [2,3] ?_;try simp only [ak,F69,seval]
 repeat' first|apply awS|apply awB
 refine aM (fun n st=>∃i0 q nx,i0<=l.length/\n=l.length-i0/\q+jk (l.drop i0)=0+jk l/\qB (1+i0*(G+1)) q/\st=⟨mkT [(2,.val (.one (.ptr 2 0 0))),(3,.val (.one (.ptr 3 1 0))),(7,.val (.one (.sh 3 l.length (aA cQ l)))),(8,one (.int .i64 l.length)),(9,one (.int .i64 i0))],mkH [(2,⟨0,32,3,1,[.lit (.bool false),.lit (.string ay),.lit (.string ay)]⟩),(3,⟨1,32,3,1,ai (enc q)⟩)],nx,0⟩) (l.length) ⟨0,0,_,by omega,by omega,by rfl,(by first|omega|assumption|rfl|simp|(simp;omega)),rfl⟩ ?_;rintro n0 st ⟨i0,q,nx0,hk0,rfl,hL0,hV0_1,rfl⟩;by_cases hlt0:i0<l.length
 ·have hI0:(i0:Int)<(l.length:Int):=by omega
  have hat0:=aO bH l i0 hlt0;try rw [Nat.mul_one] at hat0
  rw [List.drop_eq_getElem_cons hlt0] at hL0;have hGx:=hG _ (List.getElem_mem hlt0);have hVq:=hV0_1;have hmul:(i0+1)*(G+1)<=l.length*(G+1):=Nat.mul_le_mul_right _ hlt0;have hmul1:(i0+1)*(G+1)=i0*(G+1)+(G+1):=Nat.succ_mul _ _;have hnx:=(hVq.add hGx).mono (n:=1+(i0+1)*(G+1)) (by omega);generalize l[i0]=x at *
  simp only [jk] at hL0;refine awN ?_;simp only [F69,seval,ai,hI0];refine awT ?_;refine awK ?_;simp only [F69,seval];refine awN ?_;simp only [F69,seval,ai,hI0,hat0,cQ];repeat refine ob ?_
  have hCl:=zB x G hGx (by omega);have hA:=PN q x _ G hVq hGx (by omega) (by omega);simp only [ai] at hA hCl;refine awD (scq [1,3,4,6,8] .nil) [0,0,0,0,0] ?_;simp only [F69,seval];refine ⟨_,hCl,rfl,?_⟩;try simp only [ak,F69,seval]
  refine ⟨_,hA,rfl,?_⟩;try simp only [ak,F69,seval]
  refine awN ?_;simp only [F69,seval];repeat refine ob ?_
  refine ⟨_,aI [2,3,7,8,9] [2,3],l.length-(i0+1),by omega,i0+1,(q+x),?a7_nx,by omega,rfl,?i7_0,?i7_1,?st7⟩;case st7=>(simp only [F69,seval];first|rfl|(simp [hI0,hat0,Nat.add_mul];done))
  case i7_0=>(rw [←hL0];grind)
  all_goals (first|omega|assumption|(simp;omega)|(simp_all;done))
 obtain rfl:i0=l.length:=by omega
 have hI0:¬(l.length:Int)<(l.length:Int):=by omega
 rw [List.drop_length] at hL0;simp only [jk] at hL0;refine awN ?_;simp only [F69,seval,ai,hI0];refine awF ?_;refine awQ ?_;simp only [F69,seval];refine awN ?_;simp only [F69,seval];refine awX ?_;simp only [F69,seval];have hq9:q=jk l:=by grind
 simp [hq9]
def F70:=And.intro zS (And.intro Ew (And.intro Hu (And.intro Ey (And.intro Hv (And.intro Hw (And.intro pt (And.intro Ez (PT))))))))
theorem F71:type_of%F70:=F70
theorem PU (c:Nat) (list:List N4) (pools:List N3) (hc:c<65536) (hls:∀x∈list,x.a<65536/\x.b<65536/\x.c<65536/\x.d<65536) (hps:∀p∈pools,p.a<65536/\p.b<65536/\p.c<65536) (hl1:list.length<=9223372036854775807) (hp1:pools.length<=9223372036854775807):aR prog 29 [.one (.lit (.int .u16 c)),.one (.sh 4 list.length (aA cN4 list)),.one (.sh 3 pools.length (aA cN3 pools))] (.val (.agg (aJ (Ot c list pools)))):=by
 refine aP func29 rfl (by decide) (N:=15) rfl (by simp) (R:=[.cell 6 36]) rfl fun en k0=>?_
 refine awN ?_;simp only [F71,seval];have hes:(Kj 0 [c] list pools []).ests=[Ot c list pools]:=OD c list pools;have hG:=Nb 0 [c] list pools [] (by decide) (by simpa using hc) hls hps (by simp) (by simp) hl1 hp1 (by simp);generalize hgr:Kj 0 [c] list pools []=gr at *
 have hfe:aA aJ [Ot c list pools]=aJ (Ot c list pools)++[]:=rfl;simp only [aJ,List.cons_append,List.nil_append] at hfe;simp only [yk,hes,List.length_cons,List.length_nil,hfe] at hG;refine awR [11] [0,0,0,0,0,0,0,0,0] ?_;simp only [F71,seval,aJ];refine ⟨_,OL (nm:=8) hG (by simp [aU,aD,al,ax,A1.cells,ab ao,ab au,ab aN]) (by simp [aD,al,ax,A1.cells,ab KM,ab KN,ab J7]) (fun e σ w vs hW hx hd=>?_),?_⟩
 ·obtain ⟨v1,vs1,rfl,d1,hd1⟩:=bV hd;obtain ⟨v2,vs2,rfl,d2,hd2⟩:=bV hd1;obtain ⟨v3,vs3,rfl,d3,hd3⟩:=bV hd2;obtain ⟨v4,vs4,rfl,d4,hd4⟩:=bV hd3;obtain ⟨v5,vs5,rfl,d5,hd5⟩:=bV hd4;exact ⟨uf hx d1,Pn (B:=⟨1,57,1,1,aA Kl [c]⟩) hW d2 (by rfl) rfl (by show (1:Nat)≠0;decide),uf hx d3,uf hx d4,m5 3 (uf (a:= .one (.lit (.slice none 0 0))) hx d5),(by cases vs5 with|nil=>exact trivial|cons v vs=>exact hd5.elim)⟩
 rintro res H' nx' ⟨rfl,rfl,rfl⟩;simp only [F71,seval,(id SD)];refine awX ?_;simp only [F71,seval];try rfl
 try exact ⟨ab ao _,ab au _⟩
theorem OM {m:Rat} (h:0<=m):cx (enc m)=m:=by
 unfold cx nW;rw [ci];split<;>grind
theorem OZ {l:List Rat} {i:Nat} (h:i<l.length):l.getD i 0=l[i]:=by rw [List.getD_eq_getElem?_getD,List.getElem?_eq_getElem h];rfl
theorem Po {p q:Rat} (h:p<=q):¬0<dM p q:=by unfold dM;grind
structure grP (e:GEst) (g:List Rat) (i k:Nat) (hi:i<e.claims.length) (hk:k<e.claims.length) (hgi:i<g.length) (hgk:k<g.length):Prop where
 nn:¬cU g[i]<0
 le:¬0<dM g[i] (qOf e.claims[i].amount)
 sen:e.claims[i].rank<e.claims[k].rank->0<cU g[k]->g[i]=qOf e.claims[i].amount
 par:e.claims[i].rank=e.claims[k].rank->g[i]*qOf e.claims[k].amount=g[k]*qOf e.claims[i].amount
theorem ON {L:WL} {K Sm M Z G K2 S2 Z2:Nat} (hB:delB L K Sm M Z G K2 S2 Z2) {g:List Rat} (hg:∀x∈g,qB G x) (h0:0<G):∀(ps:List bX) (R:WR) (w:Nat),(∀p∈ps,p∈L.pools)->R.B (G+w*(Z2+1))->(f6 g ps R).B (G+(w+qm ps)*(Z2+1))
 |[],R,w,_,h=>by simpa [f6,qm] using h
 |p::ps,R,w,hp,h=>by
  have hpp:=hB.pl p (hp p (by simp));have hpz:=hB.pz p (hp p (by simp));have h1:=(CX hpp.1 (ij hg h0 p.1) h).mono (n:=G+(w+wN p.2)*(Z2+1)) (by
   have h7:wN p.2*(K2+(1+p.1.length*(G+1)+p.2.length*(S2+1))+S2+1)<=wN p.2*(Z2+1):=Nat.mul_le_mul_left _ (by omega);rw [Nat.add_mul];omega)
  have h2:=ON hB hg h0 ps _ _ (fun q hq=>hp q (by simp [hq])) h1;rw [f6,sr,←Nat.add_assoc];exact h2
theorem PO {L:WL} {K Sm M Z G K2 S2 Z2:Nat} (hB:delB L K Sm M Z G K2 S2 Z2) {m:Rat} (hm:qB M m) (h0:0<G):(eQ L m).B (G+qm L.pools*(Z2+1)):=by
 have hg:=mv hB hm;have h1:(⟨cG L.pools (aW L m),0⟩:WR).B (G+0*(Z2+1)):=⟨fun x hx=>(tS h0 L.pools _ hg x hx).mono (by omega),bW.mono (by omega)⟩;have h2:=ON hB hg h0 L.pools _ 0 (fun _ h=>h) h1;rw [Nat.zero_add] at h2;exact h2
theorem O0 {e:GEst} (h:wcOK e):∀l:List bR,(∀a∈l,a∈e.agrs)->qm (l.map (aV e.claims))<=l.length*600
 |[],_=>Nat.le_refl _
 |a::l,hl=>by
  have h1:=O0 h l fun x hx=>hl x (by simp [hx])
  have ha:=hl a (by simp);have h2:wN (aV e.claims a).2=pN a+(mem a).length:=by
   show wN ((bb a _).2++[dG _ _])=_;rw [iV,(eU a _).2];simp [wN,dG]
  have h3:pN a<=576:=by rw [ku];exact (h.ag a ha).2.2.1
  have h4:=(h.mi a ha).2;have h5:=h.n;rw [List.map_cons,sr,h2,List.length_cons];omega
def kD (M:Nat):Nat:=kG 6 1 M+1200*(kY 6 1 M+1)
theorem Pp {e:GEst} {M:Nat} (hI:eIn e 1 M 6 2) (h0:bv e=0) {m:Rat} (hm:qB M m):(eQ (az e) m).B (kD M):=by
 have hW:=iC h0;refine (PO (EX hW hI.s hI.k0 hI.hnc hI.nc2 hI.hna hI.b) hm (by unfold kG;omega)).mono ?_;have h1:=O0 hW e.agrs fun _ h=>h
 have h2:qm (az e).pools<=1200:=by
  have:=hI.hna;show qm (e.agrs.map (aV e.claims))<=1200;omega
 have h3:qm (az e).pools*(kY 6 1 M+1)<=1200*(kY 6 1 M+1):=Nat.mul_le_mul_right _ h2;unfold kD;omega
def ipP (c:Int):List GPart->Bool
 |[]=>false
 |p::l=>if p.claim=c then true else ipP c l
def ipT (c:Int):List (List GPart)->Bool
 |[]=>false
 |t::l=>if ipP c t=true then true else ipT c l
def ipA (c:Int):List bR->Bool
 |[]=>false
 |a::l=>if ipT c a=true then true else ipA c l
structure dlP (e:GEst) (l g:List Rat) (i:Nat) (hi:i<e.claims.length) (hl:i<l.length) (hg:i<g.length):Prop where
 nn:¬cU l[i]<0
 le:¬0<dM l[i] (qOf e.claims[i].amount)
 out:ipA (i:Int) e.agrs=false->l[i]=g[i]
theorem Pq {G:Nat}:∀{l:List Rat},(∀x∈l,qB G x)->l.length<=6->qB (1+6*(G+1)) (jk l):=fun {l} h hn=>by
 have h1:∀l:List Rat,(∀x∈l,qB G x)->qB (1+l.length*(G+1)) (jk l):=by
  intro l;induction l with
  |nil=>intro _;simpa [jk] using bW
  |cons x l ih=>
   intro h;refine ((h x (by simp)).add (ih fun y hy=>h y (by simp [hy]))).mono ?_;simp only [List.length_cons,Nat.add_mul,Nat.one_mul];omega
 refine (h1 l h).mono ?_;have:=Nat.mul_le_mul_right (G+1) hn;omega
structure dlQ (l g:Rat) (ip:Bool) (a:GClaim):Prop where
 nn:¬cU l<0
 le:¬0<dM l (qOf a.amount)
 out:ip=false->l=g
end Go.Proofs.YtokmkopihhnggaaGreatDoor
