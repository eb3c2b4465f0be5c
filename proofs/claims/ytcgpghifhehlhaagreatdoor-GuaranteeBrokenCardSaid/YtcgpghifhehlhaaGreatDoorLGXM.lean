/- GuaranteeBroken: the law's own function; walked by the abstract machine. -/
import Derived.Test.YtcgpghifhehlhaaGreatDoorGb4M
import Derived.Test.YtcgpghifhehlhaaGreatDoorAw18M
set_option linter.unusedVariables false
set_option maxHeartbeats 4000000
set_option maxRecDepth 100000
set_option linter.unusedSimpArgs false
set_option linter.defProp false
set_option linter.unusedSectionVars false
namespace Go.Proofs.YtcgpghifhehlhaaGreatDoor
open Go Go.RowKit Go.ChangeShapes Go.WideShapes Go.ChangeAt Go.Proofs.Tryz
theorem wr8 (n:Nat) (h:n<256):IntKind.u8.wrap (n:Int)=n:=by simp [IntKind.wrap,IntKind.bits,IntKind.signed];omega
theorem lZ (k n:Nat) (h:0<n):pkN k n<n:=by
 unfold pkN;rw [if_neg (by omega)];exact Nat.mod_lt _ h
theorem za (k n:Nat):pkN k n<=n:=by
 unfold pkN;split
 ·omega
 exact Nat.le_of_lt (Nat.mod_lt _ (by omega))
theorem cN {es:List GEst} {ds:List GDebt} (h:b5 ⟨es,ds⟩) (i:Nat) (e:GEst) (he:f6 e):b5 ⟨es.set i e,ds⟩:=⟨fun x hx=>by
 rcases List.mem_or_eq_of_mem_set hx with h1|rfl
 ·exact h.1 x h1
 exact he,h.2⟩
theorem fQ {es:List GEst} {ds:List GDebt} (h:b5 ⟨es,ds⟩) (i:Nat) (d:GDebt) (h1:cO d.whole) (h2:d.legs.length<=1000000000000):b5 ⟨es,ds.set i d⟩:=⟨h.1,fun x hx=>by
 rcases List.mem_or_eq_of_mem_set hx with h3|rfl
 ·exact h.2.1 x h3
 ·exact h1,fun x hx=>by
 rcases List.mem_or_eq_of_mem_set hx with h3|rfl
 ·exact h.2.2 x h3
 exact h2⟩
theorem pY {es:List GEst} {ds:List GDebt} (h:b5 ⟨es,ds⟩) (d:GDebt) (hd:d∈ds):b5 ⟨es,ds++[d]⟩:=⟨h.1,fun x hx=>by
 rcases List.mem_append.1 hx with h3|h3
 ·exact h.2.1 x h3
 ·obtain rfl:=List.mem_singleton.1 h3;exact h.2.1 _ hd,fun x hx=>by
 rcases List.mem_append.1 hx with h3|h3
 ·exact h.2.2 x h3
 obtain rfl:=List.mem_singleton.1 h3;exact h.2.2 _ hd⟩
theorem kh {e:GEst} (h:f6 e) (i:Nat) (y:GClaim) (hy:cO y.amount):f6 ⟨e.cash,e.claims.set i y,e.agrs⟩:=⟨⟨h.1.1,fun c hc=>by
 rcases List.mem_or_eq_of_mem_set hc with h1|rfl
 ·exact h.1.2.1 c h1
 exact hy,by show (e.claims.set i y).length<=_;rw [List.length_set];exact h.1.2.2.1,h.1.2.2.2⟩,h.2⟩
theorem pZ {e:GEst} (h:f6 e) (a:GRat) (ha:cO a):f6 ⟨a,e.claims,e.agrs⟩:=⟨⟨ha,h.1.2⟩,h.2⟩
theorem dV {e:GEst} (h:f6 e) (p:GPart) (hp:cO p.cap):f6 ⟨e.cash,e.claims,e.agrs++[[[p]]]⟩:=⟨⟨h.1.1,h.1.2.1,h.1.2.2.1,fun a ha=>by
 rcases List.mem_append.1 ha with h1|h1
 ·exact h.1.2.2.2 a h1
 ·obtain rfl:=List.mem_singleton.1 h1;refine ⟨fun t ht=>?_,fun x hx=>?_⟩
  ·obtain rfl:=List.mem_singleton.1 ht;simp
  simp at hx;subst hx;exact hp⟩,fun a ha=>by
 rcases List.mem_append.1 ha with h1|h1
 ·exact h.2 a h1
 obtain rfl:=List.mem_singleton.1 h1;simp⟩
theorem jE:∀(l:List (GDebt×Nat)) (i j:Nat) (p p':GDebt×Nat),l[j]? =some p->p'.1.whole=p.1.whole->(dRw l i).set (j*4+3) (j1 (i+j) p')=dRw (l.set j p') i
 |[],_,_,_,_,h,_=>by simp at h
 |q::l,i,0,p,p',h,hw=>by
  simp at h;subst h
  simp [dRw,hw]
 |q::l,i,j+1,p,p',h,hw=>by
  have h1:=jE l (i+1) j p p' (by simpa using h) hw;rw [show i+1+j=i+(j+1) by omega] at h1;simp only [dRw,List.set_cons_succ];rw [←h1,show (j+1)*4+3=4+(j*4+3) by omega,List.set_append_right _ _ (by simp)];simp
section
variable {P : Program} {e : En} {k0 : Kx} {N : Nat} {st : St} {Q : Exit → St → Prop} {c : Code}
theorem il (nm nm' nm2 off:Nat) {s n sz:Nat} {B B2:Blk} (hB:st.H nm=some B) (hB2:st.H nm2=some B2) (hc:B2.cs[off]? =some (.own nm s n sz)) (hne:nm2≠nm) (hne':nm2≠nm') (hsz:B.sz≠0) (hsz2:B2.sz≠0) (hs:B.st=s)
  (h:∀t,Awp P e k0 N c Q ⟨st.tm,up (up (up st.H nm none) nm' (some ⟨t,B.E,B.sz,B.n,B.cs⟩)) nm2 (some {B2 with cs:=B2.cs.set off (.own nm' t n sz)}),t+1,st.nb⟩):Awp P e k0 N c Q st:=eO nm nm' nm2 off hB hB2 hc hne hne' hsz hsz2 hs (h st.nx)
end
theorem fu (gi t:Nat) (ps:List (GEst×Nat)) (p:GEst×Nat) (a:List cw) (h:ps[gi]? =some p):(bQ (some (gi,t)) ps 0).set (gi*5+4) (.sh 1 a.length (ar aU a))=bQ none (ps.set gi (⟨p.1.cash,p.1.claims,a⟩,p.2)) 0:=
 ik (some (gi,t)) none ps 0 gi p (⟨p.1.cash,p.1.claims,a⟩,p.2) h rfl rfl fun k q hk hq _=>by simp only [aC];rw [if_neg (by omega)]
def F48:=And.intro zS (And.intro pn (And.intro u6 (And.intro nK (And.intro tf3 (And.intro tf4 (And.intro jS (And.intro pk (And.intro nL (And.intro tv (And.intro tf5 (And.intro po (And.intro yI (And.intro yH (And.intro tw (And.intro xj (And.intro jT (And.intro tf7 (And.intro nM (And.intro pl (And.intro pi (And.intro jU (And.intro pm (And.intro nN (And.intro tA (And.intro xe (And.intro qO (And.intro mf (And.intro hZ (And.intro zw (And.intro zC (And.intro zz (And.intro Aq (And.intro u9 (And.intro zD (And.intro zB (And.intro u5 (And.intro xg (And.intro zF (And.intro xh (pj))))))))))))))))))))))))))))))))))))))))
theorem F49:type_of%F48:=F48
theorem zX (n:Nat) (list:List N4) (pools debts:List N3) (wh aa:Nat) (by9:Int) (hn:n<256) (hls:nO xK list) (hps2:nO tS pools) (hds:nO tS debts) (hwh:wh<256) (haa:aa<256) (hby: -128<=by9/\by9<=127):ch prog 3 [.one (.lit (.int .u8 n)),.one (.sh 4 list.length (ar cN4 list)),.one (.sh 3 pools.length (ar cN3 pools)),.one (.sh 3 debts.length (ar cN3 debts)),.one (.lit (.int .u8 wh)),.one (.lit (.int .u8 aa)),.one (.lit (.int .i8 by9))] (one (.bool true)):=by
 have hl1:list.length<=9223372036854775807:=Nat.le_trans hls.1 (by decide);have hp1:pools.length<=9223372036854775807:=Nat.le_trans hps2.1 (by decide);have hd1:debts.length<=9223372036854775807:=Nat.le_trans hds.1 (by decide);refine bF func3 rfl (by decide) (N:=202) rfl (by simp) (R:=[.tmp 14]) rfl fun en k0=>?_
 refine awN ?_;simp only [F49,seval];repeat refine ob ?_
 obtain ⟨gi,hgi⟩:∃gi,aa%(1+n%4)=gi:=⟨_,rfl⟩;refine awR [23] [0,0,0,0,0,0,0] ?_;simp only [F49,seval];repeat refine ob ?_
 refine ⟨_,pX (xH gi _ n (by rw [←hgi];exact Nat.mod_lt _ (by omega)) [] list pools debts hn (by simp) hls.2 hps2.2 hds.2 (by simp) hl1 hp1 hd1) (fun κ vs h=>?_),?_⟩
 ·obtain ⟨v1,vs1,rfl,d1,h⟩:=cC h;obtain ⟨v2,vs2,rfl,d2,h⟩:=cC h;exact ⟨d1,jY 1 d2,h⟩
 rintro res H' nxA ⟨ps,ds,s,s8,t,hps,hds2,rfl,rfl⟩;have hpn:ps.length=1+n%4:=by have:=vR n [] list pools;rw [←hps,List.length_map] at this;exact this
 try simp only [aq,F49,seval]
 repeat refine ob ?_
 refine aE (cF 38 44 ps ds) [4,5,6,14,15] [51,15,49,77] (by intro y B h;right;rcases aZ h with ⟨q,r,rfl,h2,h3⟩|⟨q,r,rfl,h2,h3⟩<;>(try simp only [aj])<;>(repeat rw [if_neg (by omega)])<;>exact h) ?_;simp only [F49,seval];obtain ⟨hok,hdn,hdl⟩:=xE n [] list pools debts;obtain ⟨q,hq⟩:∃q,ps[gi]? =some q:=⟨_,List.getElem?_eq_getElem (by rw [hpn,←hgi];exact Nat.mod_lt _ (by omega))⟩;have hb6:=pM n [] list pools q.1 (by rw [←hps];exact List.mem_map.2 ⟨q,List.mem_of_getElem? hq,rfl⟩);have hw1:IntKind.i64.wrap ((aa:Nat):Int)=((aa:Nat):Int):=wri _ (by omega);have hw2:((aa:Nat):Int).tmod (ps.length:Int)=((gi:Nat):Int):=by rw [jD aa ps.length,hpn,hgi]
 have hw3:((aa:Nat):Int).tdiv 4=((aa/4:Nat):Int):=by norm_cast
 have hgl:gi<ps.length:=(List.getElem?_eq_some_iff.1 hq).1;obtain ⟨b9,hb9⟩:∃b,b=1000*(gi+1)+103:=⟨_,rfl⟩;have hown:aR 103 gi q= .own b9 q.2 q.1.claims.length 5:=by rw [hb9];rfl
 have hFq9:∀c,c%1000≠103->((b9=c)=False/\(c=b9)=False):=fun c hc=>⟨by simp;omega,by simp;omega⟩
 have hFq51:=hFq9 51 (by decide);have hFq15:=hFq9 15 (by decide);have hFq49:=hFq9 49 (by decide);have hFq77:=hFq9 77 (by decide);have htb:cF 38 44 ps ds b9=some ⟨q.2,38,5,q.1.claims.length,ar aA q.1.claims⟩:=by rw [hb9];exact iE hq
 have hw4:IntKind.u8.wrap ((aa/4:Nat):Int)=((aa/4:Nat):Int):=wr8 _ (by omega);have hw6:IntKind.i64.wrap ((aa/4:Nat):Int)=((aa/4:Nat):Int):=wri _ (by omega);have hg3:=(gt (some (gi,t)) ps gi q hq).1;rw [hown] at hg3;have hfl:=bL (some (gi,t)) ps 0;have hag77:agG gi ps=q.1.agrs:=jh hq;have hx4:(bQ (some (gi,t)) ps 0)[gi*5+4]? =some (.own 77 t q.1.agrs.length 1):=by rw [(gt (some (gi,t)) ps gi q hq).2];simp [aC]
 have hpb:=pQ gi t ps q hq;have hok0:b5 ⟨ps.map (·.1),ds.map (·.1)⟩:=by rw [hps,hds2];exact hok
 have hqm:(ps.map (·.1))[gi]'(by simpa using hgl)=q.1:=by rw [List.getElem_map,(List.getElem?_eq_some_iff.1 hq).2]
 have heo:=hok0.1 q.1 (List.mem_map.2 ⟨q,List.mem_of_getElem? hq,rfl⟩);have hrok:cO (enc (by9:Rat)):=fr ⟨by simp;omega,by simp⟩;have hokc:=pZ heo _ hrok;have ht3: -3<by9.tmod 3/\by9.tmod 3<3:=⟨Int.lt_tmod_of_pos _ (by decide),Int.tmod_lt_of_pos _ (by decide)⟩;have hdl3:ds.length<=3:=by rw [←List.length_map (f:=fun p:GDebt×Nat=>p.1),hds2];exact hdn
 refine awN ?_;simp only [F49,seval,hw1,hw2];repeat refine ob ?_
 have hPk:=vY (aa/4) q.1.claims.length (by omega) (by have:=hb6.1;omega);obtain ⟨ci,hci⟩:∃c,pkN (aa/4) q.1.claims.length=c:=⟨_,rfl⟩;rw [hci] at hPk;refine awN ?_;simp only [F49,seval,hw3,hw4,hw6,hg3,hfl,hFq51,hFq15,hFq49,hFq77,htb];repeat refine ob ?_
 refine ⟨_,hPk,(by first|rfl|simp [bu,aI,av,az,A1.cells,au,ab ak,ab ai]),?_⟩;try simp only [aq,F49,seval,hw3,hw4,hw6,hg3,hfl,hFq51,hFq15,hFq49,hFq77,htb]
 repeat refine ob ?_
 have hcb:ci<=6:=by rw [←hci];exact Nat.le_trans (za _ _) hb6.1
 have hPd:=vY (aa/4) ds.length (by omega) (by omega);obtain ⟨di,hdi⟩:∃c,pkN (aa/4) ds.length=c:=⟨_,rfl⟩;rw [hdi] at hPd;refine awN ?_;simp only [F49,seval,hw3,hw4,hw6];repeat refine ob ?_
 refine ⟨_,hPd,(by first|rfl|simp [bu,aI,av,az,A1.cells,au,ab ak,ab ai]),?_⟩;try simp only [aq,F49,seval,hw3,hw4,hw6]
 repeat refine ob ?_
 obtain ⟨k,hk⟩:∃k,wh%7=k:=⟨_,rfl⟩;have hw5:((wh:Nat):Int).tmod 7=((k:Nat):Int):=by rw [←hk];exact jD wh 7
 have hk7:k<7:=by omega
 refine awN ?_;simp only [F49,seval,hw5];repeat refine ob ?_
 by_cases w0:((k:Nat):Int)=0
 ·refine awN ?_;simp only [F49,seval,w0];repeat refine ob ?_
  refine awT ?_;by_cases hc:(0:Int)<(q.1.claims.length:Int)
  ·refine awN ?_;simp only [F49,seval,w0,hc,hg3,hfl,hFq51,hFq15,hFq49,hFq77,htb];repeat refine ob ?_
   refine awT ?_;refine aE (cF 38 44 ps ds) [5,6,14,15,16,17,18] [51,15,49,77] (by intro y B h;right;rcases aZ h with ⟨q,r,rfl,h2,h3⟩|⟨q,r,rfl,h2,h3⟩<;>(try simp only [aj])<;>(repeat rw [if_neg (by omega)])<;>exact h) ?_;simp only [F49,seval];refine be (b7 38 44 42 51 [(15,_),(49,_),(77,_)] (by simp) (by decide) _ _ ps ds) ?_;simp only [F49,seval];refine ao 51 15 1 (by rfl) (by rfl) (by rfl) (by decide) (by show (4:Nat)≠0;decide) (by show (2:Nat)≠0;decide) rfl ?_;simp only [F49,seval];refine ao 77 49 (gi*5+4) (by rfl) (by rfl) hx4 (by decide) (by show (1:Nat)≠0;decide) (by show (5:Nat)≠0;decide) rfl ?_;simp only [F49,seval,hag77,hpb,bq];have hcil0:ci<q.1.claims.length:=by rw [←hci];exact lZ _ _ (by omega)
   have hg3s:=(gt none ps gi q hq).1;rw [bq,hown] at hg3s;have hatc:=aO bX q.1.claims ci hcil0;have hlc:=aS bX q.1.claims;have hcv:=(wy n [] list pools gi (by rw [←hps,List.length_map];exact hgl)).2.1;have hqe:(iJ n [] list pools)[gi]'(by rw [←hps,List.length_map];exact hgl)=q.1:=by have h1:(iJ n [] list pools)[gi]? =some q.1:=(by rw [←hps,List.getElem?_map,hq];rfl);exact (List.getElem?_eq_some_iff.1 h1).2
   rw [hqe] at hcv;have hcv9:=hcv _ (List.getElem_mem hcil0);obtain ⟨c9,hc9⟩:∃c,q.1.claims[ci]=c:=⟨_,rfl⟩;rw [hc9] at hatc hcv9;obtain ⟨a1,a2,a3,a4,a5,a6⟩:=hcv9;have hh0:(ar aA q.1.claims)[ci*5]? =some (.lit (.int .i64 c9.holder)):=by rw [←List.head?_drop,hatc];rfl
   have hh1:(ar aA q.1.claims)[ci*5+1]? =some (.lit (.int .i64 c9.rank)):=by rw [←List.head?_drop,←List.drop_drop,hatc];rfl
   have hfls:=kz (aR 103) ps 0;have htbs:tbl 103 38 ps b9=some ⟨q.2,38,5,q.1.claims.length,ar aA q.1.claims⟩:=by rw [hb9];exact bk (by decide) hq
   refine awN ?_;simp only [F49,seval,w0,hc,hg3s,hfls,hFq51,hFq15,hFq49,hFq77,htbs,hlc,hh0,hh1];repeat refine ob ?_
   have hsetc:=iD bX q.1.claims ci 0 [.lit (.int .i64 (c9.holder+by9))] ⟨(c9.holder+by9),c9.rank,c9.amount⟩ hcil0 (by simp) (by rw [hc9];simp [aA,spl]);simp only [Nat.add_zero] at hsetc;refine aE (tbl 103 38 (ps.set gi (⟨q.1.cash,q.1.claims.set ci ⟨(c9.holder+by9),c9.rank,c9.amount⟩,q.1.agrs⟩,q.2))) [5,6,14,15,16,17,18] [49,15] (bR (fun a r hr=>?tq) _) ?_;case tq=>
    by_cases hai:a=gi
    ·rw [hai] at hr ⊢;rw [List.getElem?_set_self hgl] at hr;obtain rfl:=Option.some.inj hr;simp only [aj,←hb9,if_true,List.length_set];rw [hsetc]
    rw [List.getElem?_set_ne (fun h=>hai h.symm)] at hr;simp only [aj];repeat rw [if_neg (by omega)]
    exact bk (by decide) hr
   simp only [F49,seval,hFq15,hFq49];rw [←pO (aR 103) ps gi q (⟨q.1.cash,q.1.claims.set ci ⟨(c9.holder+by9),c9.rank,c9.amount⟩,q.1.agrs⟩,q.2) hq rfl rfl (by simp [aR])];refine be (bZ 103 38 36 (by decide) 49 [(15,_)] (by simp) (by decide) _ _ (ps.set gi (⟨q.1.cash,q.1.claims.set ci ⟨(c9.holder+by9),c9.rank,c9.amount⟩,q.1.agrs⟩,q.2))) ?_;rw [bP];simp only [F49,seval];refine ao 49 15 0 (by rfl) (by rfl) (by rfl) (by decide) (by show (5:Nat)≠0;decide) (by show (2:Nat)≠0;decide) rfl ?_;simp only [F49,seval];have hok9:b5 ⟨(ps.set gi (⟨q.1.cash,q.1.claims.set ci ⟨(c9.holder+by9),c9.rank,c9.amount⟩,q.1.agrs⟩,q.2)).map (·.1),ds.map (·.1)⟩:=by rw [List.map_set];exact cN hok0 gi _ (kh heo ci ⟨(c9.holder+by9),c9.rank,c9.amount⟩ (heo.1.2.1 c9 (by rw [←hc9];exact List.getElem_mem hcil0)))
   have hC:=b0 ⟨(ps.set gi (⟨q.1.cash,q.1.claims.set ci ⟨(c9.holder+by9),c9.rank,c9.amount⟩,q.1.agrs⟩,q.2)).map (·.1),ds.map (·.1)⟩ (bJ hok9);have hD:=b6 ⟨(ps.set gi (⟨q.1.cash,q.1.claims.set ci ⟨(c9.holder+by9),c9.rank,c9.amount⟩,q.1.agrs⟩,q.2)).map (·.1),ds.map (·.1)⟩ hok9;rw [←ez] at hD;simp only [au,List.length_map,List.length_set,List.length_append,List.length_cons,List.length_nil,Nat.zero_add] at hC hD;refine awD (scq [0,3,5,9,6,10,13,15,17] .nil) [0,0,393,393,393,393,393,0,0] ?_;simp only [F49,seval,w0,hc,BEq.rfl,au,ab ak,ab ai];repeat refine ob ?_
   refine ⟨_,bK,(by first|rfl|simp [bu,aI,av,az,A1.cells,au,ab ak,ab ai]),?_⟩;try simp only [aq,F49,seval,w0,hc,BEq.rfl,au,ab ak,ab ai]
   repeat refine ob ?_
   refine ⟨_,hC,(by first|rfl|simp [bu,aI,av,az,A1.cells,au,ab ak,ab ai]),?_⟩;try simp only [aq,F49,seval,w0,hc,BEq.rfl,au,ab ak,ab ai]
   repeat refine ob ?_
   refine ⟨_,hD,(by first|rfl|simp [bu,aI,av,az,A1.cells,au,ab ak,ab ai]),?_⟩;try simp only [aq,F49,seval,w0,hc,BEq.rfl,au,ab ak,ab ai]
   repeat refine ob ?_
   refine awX ?_;(first|(simp only [F49,seval,w0,hc];done)|(simp only [F49,seval];first|(simp [w0,hc];done)))
  refine awN ?_;simp only [F49,seval,w0,hc,hg3,hfl,hFq51,hFq15,hFq49,hFq77,htb];repeat refine ob ?_
  refine awF ?_;refine awK ?_;simp only [F49,seval];refine aE (cF 38 44 ps ds) [5,6,14,15,16,17,18] [51,15,49,77] (by intro y B h;right;rcases aZ h with ⟨q,r,rfl,h2,h3⟩|⟨q,r,rfl,h2,h3⟩<;>(try simp only [aj])<;>(repeat rw [if_neg (by omega)])<;>exact h) ?_;simp only [F49,seval];refine be (b7 38 44 42 51 [(15,_),(49,_),(77,_)] (by simp) (by decide) _ _ ps ds) ?_;simp only [F49,seval];refine ao 51 15 1 (by rfl) (by rfl) (by rfl) (by decide) (by show (4:Nat)≠0;decide) (by show (2:Nat)≠0;decide) rfl ?_;simp only [F49,seval];refine ao 77 49 (gi*5+4) (by rfl) (by rfl) hx4 (by decide) (by show (1:Nat)≠0;decide) (by show (5:Nat)≠0;decide) rfl ?_;simp only [F49,seval,hag77,hpb,bq];refine aE (tbl 103 38 ps) [5,6,14,15,16,17,18] [49,15] (by intro y B h;obtain ⟨q,r,rfl,h2,h3⟩:=bD h;right;(try simp only [aj]);(repeat rw [if_neg (by omega)]);exact h) ?_;simp only [F49,seval];refine be (bZ 103 38 36 (by decide) 49 [(15,_)] (by simp) (by decide) _ _ ps) ?_;rw [bP];simp only [F49,seval];refine ao 49 15 0 (by rfl) (by rfl) (by rfl) (by decide) (by show (5:Nat)≠0;decide) (by show (2:Nat)≠0;decide) rfl ?_;simp only [F49,seval];have hok9:b5 ⟨ps.map (·.1),ds.map (·.1)⟩:=hok0;have hC:=b0 ⟨ps.map (·.1),ds.map (·.1)⟩ (bJ hok9);have hD:=b6 ⟨ps.map (·.1),ds.map (·.1)⟩ hok9;rw [←ez] at hD;simp only [au,List.length_map,List.length_set,List.length_append,List.length_cons,List.length_nil,Nat.zero_add] at hC hD;refine awD (scq [0,3,5,9,6,10,13,15,17] .nil) [0,0,393,393,393,393,393,0,0] ?_;simp only [F49,seval,w0,hc,BEq.rfl,au,ab ak,ab ai];repeat refine ob ?_
  refine ⟨_,bK,(by first|rfl|simp [bu,aI,av,az,A1.cells,au,ab ak,ab ai]),?_⟩;try simp only [aq,F49,seval,w0,hc,BEq.rfl,au,ab ak,ab ai]
  repeat refine ob ?_
  refine ⟨_,hC,(by first|rfl|simp [bu,aI,av,az,A1.cells,au,ab ak,ab ai]),?_⟩;try simp only [aq,F49,seval,w0,hc,BEq.rfl,au,ab ak,ab ai]
  repeat refine ob ?_
  refine ⟨_,hD,(by first|rfl|simp [bu,aI,av,az,A1.cells,au,ab ak,ab ai]),?_⟩;try simp only [aq,F49,seval,w0,hc,BEq.rfl,au,ab ak,ab ai]
  repeat refine ob ?_
  refine awX ?_;(first|(simp only [F49,seval,w0,hc];done)|(simp only [F49,seval];first|(simp [w0,hc];done)))
 refine awN ?_;simp only [F49,seval,w0];repeat refine ob ?_
 refine awF ?_;by_cases w1x:((k:Nat):Int)=1
 ·refine awN ?_;simp only [F49,seval,w0,w1x];repeat refine ob ?_
  refine awT ?_;by_cases hc:(0:Int)<(q.1.claims.length:Int)
  ·refine awN ?_;simp only [F49,seval,w0,w1x,hc,hg3,hfl,hFq51,hFq15,hFq49,hFq77,htb];repeat refine ob ?_
   refine awT ?_;refine aE (cF 38 44 ps ds) [5,6,14,15,16,17,18] [51,15,49,77] (by intro y B h;right;rcases aZ h with ⟨q,r,rfl,h2,h3⟩|⟨q,r,rfl,h2,h3⟩<;>(try simp only [aj])<;>(repeat rw [if_neg (by omega)])<;>exact h) ?_;simp only [F49,seval];refine be (b7 38 44 42 51 [(15,_),(49,_),(77,_)] (by simp) (by decide) _ _ ps ds) ?_;simp only [F49,seval];refine ao 51 15 1 (by rfl) (by rfl) (by rfl) (by decide) (by show (4:Nat)≠0;decide) (by show (2:Nat)≠0;decide) rfl ?_;simp only [F49,seval];refine ao 77 49 (gi*5+4) (by rfl) (by rfl) hx4 (by decide) (by show (1:Nat)≠0;decide) (by show (5:Nat)≠0;decide) rfl ?_;simp only [F49,seval,hag77,hpb,bq];have hcil0:ci<q.1.claims.length:=by rw [←hci];exact lZ _ _ (by omega)
   have hg3s:=(gt none ps gi q hq).1;rw [bq,hown] at hg3s;have hatc:=aO bX q.1.claims ci hcil0;have hlc:=aS bX q.1.claims;have hcv:=(wy n [] list pools gi (by rw [←hps,List.length_map];exact hgl)).2.1;have hqe:(iJ n [] list pools)[gi]'(by rw [←hps,List.length_map];exact hgl)=q.1:=by have h1:(iJ n [] list pools)[gi]? =some q.1:=(by rw [←hps,List.getElem?_map,hq];rfl);exact (List.getElem?_eq_some_iff.1 h1).2
   rw [hqe] at hcv;have hcv9:=hcv _ (List.getElem_mem hcil0);obtain ⟨c9,hc9⟩:∃c,q.1.claims[ci]=c:=⟨_,rfl⟩;rw [hc9] at hatc hcv9;obtain ⟨a1,a2,a3,a4,a5,a6⟩:=hcv9;have hh0:(ar aA q.1.claims)[ci*5]? =some (.lit (.int .i64 c9.holder)):=by rw [←List.head?_drop,hatc];rfl
   have hh1:(ar aA q.1.claims)[ci*5+1]? =some (.lit (.int .i64 c9.rank)):=by rw [←List.head?_drop,←List.drop_drop,hatc];rfl
   have hfls:=kz (aR 103) ps 0;have htbs:tbl 103 38 ps b9=some ⟨q.2,38,5,q.1.claims.length,ar aA q.1.claims⟩:=by rw [hb9];exact bk (by decide) hq
   refine awN ?_;simp only [F49,seval,w0,w1x,hc,hg3s,hfls,hFq51,hFq15,hFq49,hFq77,htbs,hlc,hh0,hh1];repeat refine ob ?_
   have hsetc:=iD bX q.1.claims ci 1 [.lit (.int .i64 (c9.rank+by9))] ⟨c9.holder,(c9.rank+by9),c9.amount⟩ hcil0 (by simp) (by rw [hc9];simp [aA,spl]);refine aE (tbl 103 38 (ps.set gi (⟨q.1.cash,q.1.claims.set ci ⟨c9.holder,(c9.rank+by9),c9.amount⟩,q.1.agrs⟩,q.2))) [5,6,14,15,16,17,18] [49,15] (bR (fun a r hr=>?tq) _) ?_;case tq=>
    by_cases hai:a=gi
    ·rw [hai] at hr ⊢;rw [List.getElem?_set_self hgl] at hr;obtain rfl:=Option.some.inj hr;simp only [aj,←hb9,if_true,List.length_set];rw [hsetc]
    rw [List.getElem?_set_ne (fun h=>hai h.symm)] at hr;simp only [aj];repeat rw [if_neg (by omega)]
    exact bk (by decide) hr
   simp only [F49,seval,hFq15,hFq49];rw [←pO (aR 103) ps gi q (⟨q.1.cash,q.1.claims.set ci ⟨c9.holder,(c9.rank+by9),c9.amount⟩,q.1.agrs⟩,q.2) hq rfl rfl (by simp [aR])];refine be (bZ 103 38 36 (by decide) 49 [(15,_)] (by simp) (by decide) _ _ (ps.set gi (⟨q.1.cash,q.1.claims.set ci ⟨c9.holder,(c9.rank+by9),c9.amount⟩,q.1.agrs⟩,q.2))) ?_;rw [bP];simp only [F49,seval];refine ao 49 15 0 (by rfl) (by rfl) (by rfl) (by decide) (by show (5:Nat)≠0;decide) (by show (2:Nat)≠0;decide) rfl ?_;simp only [F49,seval];have hok9:b5 ⟨(ps.set gi (⟨q.1.cash,q.1.claims.set ci ⟨c9.holder,(c9.rank+by9),c9.amount⟩,q.1.agrs⟩,q.2)).map (·.1),ds.map (·.1)⟩:=by rw [List.map_set];exact cN hok0 gi _ (kh heo ci ⟨c9.holder,(c9.rank+by9),c9.amount⟩ (heo.1.2.1 c9 (by rw [←hc9];exact List.getElem_mem hcil0)))
   have hC:=b0 ⟨(ps.set gi (⟨q.1.cash,q.1.claims.set ci ⟨c9.holder,(c9.rank+by9),c9.amount⟩,q.1.agrs⟩,q.2)).map (·.1),ds.map (·.1)⟩ (bJ hok9);have hD:=b6 ⟨(ps.set gi (⟨q.1.cash,q.1.claims.set ci ⟨c9.holder,(c9.rank+by9),c9.amount⟩,q.1.agrs⟩,q.2)).map (·.1),ds.map (·.1)⟩ hok9;rw [←ez] at hD;simp only [au,List.length_map,List.length_set,List.length_append,List.length_cons,List.length_nil,Nat.zero_add] at hC hD;refine awD (scq [0,3,5,9,6,10,13,15,17] .nil) [0,0,393,393,393,393,393,0,0] ?_;simp only [F49,seval,w0,w1x,hc,BEq.rfl,au,ab ak,ab ai];repeat refine ob ?_
   refine ⟨_,bK,(by first|rfl|simp [bu,aI,av,az,A1.cells,au,ab ak,ab ai]),?_⟩;try simp only [aq,F49,seval,w0,w1x,hc,BEq.rfl,au,ab ak,ab ai]
   repeat refine ob ?_
   refine ⟨_,hC,(by first|rfl|simp [bu,aI,av,az,A1.cells,au,ab ak,ab ai]),?_⟩;try simp only [aq,F49,seval,w0,w1x,hc,BEq.rfl,au,ab ak,ab ai]
   repeat refine ob ?_
   refine ⟨_,hD,(by first|rfl|simp [bu,aI,av,az,A1.cells,au,ab ak,ab ai]),?_⟩;try simp only [aq,F49,seval,w0,w1x,hc,BEq.rfl,au,ab ak,ab ai]
   repeat refine ob ?_
   refine awX ?_;(first|(simp only [F49,seval,w0,w1x,hc];done)|(simp only [F49,seval];first|(simp [w0,w1x,hc];done)))
  refine awN ?_;simp only [F49,seval,w0,w1x,hc,hg3,hfl,hFq51,hFq15,hFq49,hFq77,htb];repeat refine ob ?_
  refine awF ?_;refine awK ?_;simp only [F49,seval];refine aE (cF 38 44 ps ds) [5,6,14,15,16,17,18] [51,15,49,77] (by intro y B h;right;rcases aZ h with ⟨q,r,rfl,h2,h3⟩|⟨q,r,rfl,h2,h3⟩<;>(try simp only [aj])<;>(repeat rw [if_neg (by omega)])<;>exact h) ?_;simp only [F49,seval];refine be (b7 38 44 42 51 [(15,_),(49,_),(77,_)] (by simp) (by decide) _ _ ps ds) ?_;simp only [F49,seval];refine ao 51 15 1 (by rfl) (by rfl) (by rfl) (by decide) (by show (4:Nat)≠0;decide) (by show (2:Nat)≠0;decide) rfl ?_;simp only [F49,seval];refine ao 77 49 (gi*5+4) (by rfl) (by rfl) hx4 (by decide) (by show (1:Nat)≠0;decide) (by show (5:Nat)≠0;decide) rfl ?_;simp only [F49,seval,hag77,hpb,bq];refine aE (tbl 103 38 ps) [5,6,14,15,16,17,18] [49,15] (by intro y B h;obtain ⟨q,r,rfl,h2,h3⟩:=bD h;right;(try simp only [aj]);(repeat rw [if_neg (by omega)]);exact h) ?_;simp only [F49,seval];refine be (bZ 103 38 36 (by decide) 49 [(15,_)] (by simp) (by decide) _ _ ps) ?_;rw [bP];simp only [F49,seval];refine ao 49 15 0 (by rfl) (by rfl) (by rfl) (by decide) (by show (5:Nat)≠0;decide) (by show (2:Nat)≠0;decide) rfl ?_;simp only [F49,seval];have hok9:b5 ⟨ps.map (·.1),ds.map (·.1)⟩:=hok0;have hC:=b0 ⟨ps.map (·.1),ds.map (·.1)⟩ (bJ hok9);have hD:=b6 ⟨ps.map (·.1),ds.map (·.1)⟩ hok9;rw [←ez] at hD;simp only [au,List.length_map,List.length_set,List.length_append,List.length_cons,List.length_nil,Nat.zero_add] at hC hD;refine awD (scq [0,3,5,9,6,10,13,15,17] .nil) [0,0,393,393,393,393,393,0,0] ?_;simp only [F49,seval,w0,w1x,hc,BEq.rfl,au,ab ak,ab ai];repeat refine ob ?_
  refine ⟨_,bK,(by first|rfl|simp [bu,aI,av,az,A1.cells,au,ab ak,ab ai]),?_⟩;try simp only [aq,F49,seval,w0,w1x,hc,BEq.rfl,au,ab ak,ab ai]
  repeat refine ob ?_
  refine ⟨_,hC,(by first|rfl|simp [bu,aI,av,az,A1.cells,au,ab ak,ab ai]),?_⟩;try simp only [aq,F49,seval,w0,w1x,hc,BEq.rfl,au,ab ak,ab ai]
  repeat refine ob ?_
  refine ⟨_,hD,(by first|rfl|simp [bu,aI,av,az,A1.cells,au,ab ak,ab ai]),?_⟩;try simp only [aq,F49,seval,w0,w1x,hc,BEq.rfl,au,ab ak,ab ai]
  repeat refine ob ?_
  refine awX ?_;(first|(simp only [F49,seval,w0,w1x,hc];done)|(simp only [F49,seval];first|(simp [w0,w1x,hc];done)))
 refine awN ?_;simp only [F49,seval,w0,w1x];repeat refine ob ?_
 refine awF ?_;by_cases w2x:((k:Nat):Int)=2
 ·refine awN ?_;simp only [F49,seval,w0,w1x,w2x];repeat refine ob ?_
  refine awT ?_;refine aE (cF 38 44 ps ds) [5,6,14,15,16,17,18] [51,15,49,77] (by intro y B h;right;rcases aZ h with ⟨q,r,rfl,h2,h3⟩|⟨q,r,rfl,h2,h3⟩<;>(try simp only [aj])<;>(repeat rw [if_neg (by omega)])<;>exact h) ?_;simp only [F49,seval];refine be (b7 38 44 42 51 [(15,_),(49,_),(77,_)] (by simp) (by decide) _ _ ps ds) ?_;simp only [F49,seval];refine ao 51 15 1 (by rfl) (by rfl) (by rfl) (by decide) (by show (4:Nat)≠0;decide) (by show (2:Nat)≠0;decide) rfl ?_;simp only [F49,seval];refine ao 77 49 (gi*5+4) (by rfl) (by rfl) hx4 (by decide) (by show (1:Nat)≠0;decide) (by show (5:Nat)≠0;decide) rfl ?_;simp only [F49,seval,hag77,hpb,bq];refine aE (tbl 103 38 ps) [5,6,14,15,16,17,18] [49,15] (by intro y B h;obtain ⟨q,r,rfl,h2,h3⟩:=bD h;right;(try simp only [aj]);(repeat rw [if_neg (by omega)]);exact h) ?_;simp only [F49,seval];refine be (bZ 103 38 36 (by decide) 49 [(15,_)] (by simp) (by decide) _ _ ps) ?_;rw [bP];simp only [F49,seval];have hsc:=iD de (ps.map (·.1)) gi 0 (cS (enc (by9:Rat))) ⟨enc (by9:Rat),q.1.claims,q.1.agrs⟩ (by simpa using hgl) (by simp [cS]) (by rw [hqm];simp [bh,cS,spl]);simp only [Nat.add_zero,cS] at hsc;have hle:=aS de (ps.map (·.1));rw [List.length_map] at hle;have hWh:=fG by9 (by omega) (by omega);refine awD (scT 0 5 (scq [10,13,15,16] .nil)) [0,0,0,0,0,0,0,0,0] ?_;simp only [F49,seval,w0,w1x,w2x,cS,hle,hsc];repeat refine ob ?_
  refine ⟨_,hWh,(by first|rfl|simp [bu,aI,av,az,A1.cells,au,ab ak,ab ai]),?_⟩;try simp only [aq,F49,seval,w0,w1x,w2x,cS,hle,hsc]
  repeat refine ob ?_
  refine ao 49 15 0 (by rfl) (by rfl) (by rfl) (by decide) (by show (5:Nat)≠0;decide) (by show (2:Nat)≠0;decide) rfl ?_;simp only [F49,seval];have hok9:b5 ⟨(ps.map (·.1)).set gi ⟨enc (by9:Rat),q.1.claims,q.1.agrs⟩,ds.map (·.1)⟩:=cN hok0 gi _ hokc;have hC:=b0 ⟨(ps.map (·.1)).set gi ⟨enc (by9:Rat),q.1.claims,q.1.agrs⟩,ds.map (·.1)⟩ (bJ hok9);have hD:=b6 ⟨(ps.map (·.1)).set gi ⟨enc (by9:Rat),q.1.claims,q.1.agrs⟩,ds.map (·.1)⟩ hok9;rw [←ez] at hD;simp only [au,List.length_map,List.length_set,List.length_append,List.length_cons,List.length_nil,Nat.zero_add] at hC hD;refine awD (scq [0,3,5,9,6,10,13,15,17] .nil) [0,0,393,393,393,393,393,0,0] ?_;simp only [F49,seval,w0,w1x,w2x,BEq.rfl,au,ab ak,ab ai];repeat refine ob ?_
  refine ⟨_,bK,(by first|rfl|simp [bu,aI,av,az,A1.cells,au,ab ak,ab ai]),?_⟩;try simp only [aq,F49,seval,w0,w1x,w2x,BEq.rfl,au,ab ak,ab ai]
  repeat refine ob ?_
  refine ⟨_,hC,(by first|rfl|simp [bu,aI,av,az,A1.cells,au,ab ak,ab ai]),?_⟩;try simp only [aq,F49,seval,w0,w1x,w2x,BEq.rfl,au,ab ak,ab ai]
  repeat refine ob ?_
  refine ⟨_,hD,(by first|rfl|simp [bu,aI,av,az,A1.cells,au,ab ak,ab ai]),?_⟩;try simp only [aq,F49,seval,w0,w1x,w2x,BEq.rfl,au,ab ak,ab ai]
  repeat refine ob ?_
  refine awX ?_;(first|(simp only [F49,seval,w0,w1x,w2x];done)|(simp only [F49,seval];first|(simp [w0,w1x,w2x];done)))
 refine awN ?_;simp only [F49,seval,w0,w1x,w2x];repeat refine ob ?_
 refine awF ?_;by_cases w3x:((k:Nat):Int)=3
 ·refine awN ?_;simp only [F49,seval,w0,w1x,w2x,w3x];repeat refine ob ?_
  refine awT ?_;by_cases hd:(0:Int)<(ds.length:Int)
  ·refine awN ?_;simp only [F49,seval,w0,w1x,w2x,w3x,hd];repeat refine ob ?_
   refine awT ?_;obtain ⟨r,hr⟩:∃r,ds[di]? =some r:=⟨_,List.getElem?_eq_getElem (by rw [←hdi];exact lZ _ _ (by omega))⟩;have hdil:di<ds.length:=(List.getElem?_eq_some_iff.1 hr).1;have hrm:r.1∈ds.map (·.1):=List.mem_map.2 ⟨r,List.mem_of_getElem? hr,rfl⟩;have hdl9:=hdl r.1 (by rw [←hds2];exact hrm);refine aE (cF 38 44 ps ds) [5,6,14,15,16,17,18] [51,15,49,77] (by intro y B h;right;rcases aZ h with ⟨q,r,rfl,h2,h3⟩|⟨q,r,rfl,h2,h3⟩<;>(try simp only [aj])<;>(repeat rw [if_neg (by omega)])<;>exact h) ?_;simp only [F49,seval];refine be (b7 38 44 42 51 [(15,_),(49,_),(77,_)] (by simp) (by decide) _ _ ps ds) ?_;simp only [F49,seval];have hld:=aS dT (ds.map (·.1));rw [List.length_map] at hld;have hrm9:(ds.map (·.1))[di]'(by simpa using hdil)=r.1:=by rw [List.getElem_map,(List.getElem?_eq_some_iff.1 hr).2]
   have hsd:=iD dT (ds.map (·.1)) di 0 (cS (enc (by9:Rat))) ⟨enc (by9:Rat),r.1.legs⟩ (by simpa using hdil) (by simp [cS]) (by rw [hrm9];simp [cn,cS,spl]);simp only [Nat.add_zero,cS] at hsd;have hWh:=fG by9 (by omega) (by omega);refine awD (scT 0 5 (scq [10,13,15,16] .nil)) [0,0,0,0,0,0,0,0,0] ?_;simp only [F49,seval,w0,w1x,w2x,w3x,hd,cS,hld,hsd];repeat refine ob ?_
   refine ⟨_,hWh,(by first|rfl|simp [bu,aI,av,az,A1.cells,au,ab ak,ab ai]),?_⟩;try simp only [aq,F49,seval,w0,w1x,w2x,w3x,hd,cS,hld,hsd]
   repeat refine ob ?_
   refine ao 51 15 1 (by rfl) (by rfl) (by rfl) (by decide) (by show (4:Nat)≠0;decide) (by show (2:Nat)≠0;decide) rfl ?_;simp only [F49,seval];refine ao 77 49 (gi*5+4) (by rfl) (by rfl) hx4 (by decide) (by show (1:Nat)≠0;decide) (by show (5:Nat)≠0;decide) rfl ?_;simp only [F49,seval,hag77,hpb,bq];refine aE (tbl 103 38 ps) [5,6,14,15,16,17,18] [49,15] (by intro y B h;obtain ⟨q,r,rfl,h2,h3⟩:=bD h;right;(try simp only [aj]);(repeat rw [if_neg (by omega)]);exact h) ?_;simp only [F49,seval];refine be (bZ 103 38 36 (by decide) 49 [(15,_)] (by simp) (by decide) _ _ ps) ?_;rw [bP];simp only [F49,seval];refine ao 49 15 0 (by rfl) (by rfl) (by rfl) (by decide) (by show (5:Nat)≠0;decide) (by show (2:Nat)≠0;decide) rfl ?_;simp only [F49,seval];have hok9:b5 ⟨ps.map (·.1),(ds.map (·.1)).set di ⟨enc (by9:Rat),r.1.legs⟩⟩:=fQ hok0 di _ hrok (by have:=hdl9;show r.1.legs.length<=_;omega);have hC:=b0 ⟨ps.map (·.1),(ds.map (·.1)).set di ⟨enc (by9:Rat),r.1.legs⟩⟩ (bJ hok9);have hD:=b6 ⟨ps.map (·.1),(ds.map (·.1)).set di ⟨enc (by9:Rat),r.1.legs⟩⟩ hok9;rw [←ez] at hD;simp only [au,List.length_map,List.length_set,List.length_append,List.length_cons,List.length_nil,Nat.zero_add] at hC hD;refine awD (scq [0,3,5,9,6,10,13,15,17] .nil) [0,0,393,393,393,393,393,0,0] ?_;simp only [F49,seval,w0,w1x,w2x,w3x,hd,BEq.rfl,au,ab ak,ab ai];repeat refine ob ?_
   refine ⟨_,bK,(by first|rfl|simp [bu,aI,av,az,A1.cells,au,ab ak,ab ai]),?_⟩;try simp only [aq,F49,seval,w0,w1x,w2x,w3x,hd,BEq.rfl,au,ab ak,ab ai]
   repeat refine ob ?_
   refine ⟨_,hC,(by first|rfl|simp [bu,aI,av,az,A1.cells,au,ab ak,ab ai]),?_⟩;try simp only [aq,F49,seval,w0,w1x,w2x,w3x,hd,BEq.rfl,au,ab ak,ab ai]
   repeat refine ob ?_
   refine ⟨_,hD,(by first|rfl|simp [bu,aI,av,az,A1.cells,au,ab ak,ab ai]),?_⟩;try simp only [aq,F49,seval,w0,w1x,w2x,w3x,hd,BEq.rfl,au,ab ak,ab ai]
   repeat refine ob ?_
   refine awX ?_;(first|(simp only [F49,seval,w0,w1x,w2x,w3x,hd];done)|(simp only [F49,seval];first|(simp [w0,w1x,w2x,w3x,hd];done)))
  refine awN ?_;simp only [F49,seval,w0,w1x,w2x,w3x,hd];repeat refine ob ?_
  refine awF ?_;refine awK ?_;simp only [F49,seval];refine aE (cF 38 44 ps ds) [5,6,14,15,16,17,18] [51,15,49,77] (by intro y B h;right;rcases aZ h with ⟨q,r,rfl,h2,h3⟩|⟨q,r,rfl,h2,h3⟩<;>(try simp only [aj])<;>(repeat rw [if_neg (by omega)])<;>exact h) ?_;simp only [F49,seval];refine be (b7 38 44 42 51 [(15,_),(49,_),(77,_)] (by simp) (by decide) _ _ ps ds) ?_;simp only [F49,seval];refine ao 51 15 1 (by rfl) (by rfl) (by rfl) (by decide) (by show (4:Nat)≠0;decide) (by show (2:Nat)≠0;decide) rfl ?_;simp only [F49,seval];refine ao 77 49 (gi*5+4) (by rfl) (by rfl) hx4 (by decide) (by show (1:Nat)≠0;decide) (by show (5:Nat)≠0;decide) rfl ?_;simp only [F49,seval,hag77,hpb,bq];refine aE (tbl 103 38 ps) [5,6,14,15,16,17,18] [49,15] (by intro y B h;obtain ⟨q,r,rfl,h2,h3⟩:=bD h;right;(try simp only [aj]);(repeat rw [if_neg (by omega)]);exact h) ?_;simp only [F49,seval];refine be (bZ 103 38 36 (by decide) 49 [(15,_)] (by simp) (by decide) _ _ ps) ?_;rw [bP];simp only [F49,seval];refine ao 49 15 0 (by rfl) (by rfl) (by rfl) (by decide) (by show (5:Nat)≠0;decide) (by show (2:Nat)≠0;decide) rfl ?_;simp only [F49,seval];have hok9:b5 ⟨ps.map (·.1),ds.map (·.1)⟩:=hok0;have hC:=b0 ⟨ps.map (·.1),ds.map (·.1)⟩ (bJ hok9);have hD:=b6 ⟨ps.map (·.1),ds.map (·.1)⟩ hok9;rw [←ez] at hD;simp only [au,List.length_map,List.length_set,List.length_append,List.length_cons,List.length_nil,Nat.zero_add] at hC hD;refine awD (scq [0,3,5,9,6,10,13,15,17] .nil) [0,0,393,393,393,393,393,0,0] ?_;simp only [F49,seval,w0,w1x,w2x,w3x,hd,BEq.rfl,au,ab ak,ab ai];repeat refine ob ?_
  refine ⟨_,bK,(by first|rfl|simp [bu,aI,av,az,A1.cells,au,ab ak,ab ai]),?_⟩;try simp only [aq,F49,seval,w0,w1x,w2x,w3x,hd,BEq.rfl,au,ab ak,ab ai]
  repeat refine ob ?_
  refine ⟨_,hC,(by first|rfl|simp [bu,aI,av,az,A1.cells,au,ab ak,ab ai]),?_⟩;try simp only [aq,F49,seval,w0,w1x,w2x,w3x,hd,BEq.rfl,au,ab ak,ab ai]
  repeat refine ob ?_
  refine ⟨_,hD,(by first|rfl|simp [bu,aI,av,az,A1.cells,au,ab ak,ab ai]),?_⟩;try simp only [aq,F49,seval,w0,w1x,w2x,w3x,hd,BEq.rfl,au,ab ak,ab ai]
  repeat refine ob ?_
  refine awX ?_;(first|(simp only [F49,seval,w0,w1x,w2x,w3x,hd];done)|(simp only [F49,seval];first|(simp [w0,w1x,w2x,w3x,hd];done)))
 refine awN ?_;simp only [F49,seval,w0,w1x,w2x,w3x];repeat refine ob ?_
 refine awF ?_;by_cases w4x:((k:Nat):Int)=4
 ·refine awN ?_;simp only [F49,seval,w0,w1x,w2x,w3x,w4x];repeat refine ob ?_
  refine awT ?_;by_cases hd:(0:Int)<(ds.length:Int)
  ·refine awN ?_;simp only [F49,seval,w0,w1x,w2x,w3x,w4x,hd];repeat refine ob ?_
   refine awT ?_;obtain ⟨r,hr⟩:∃r,ds[di]? =some r:=⟨_,List.getElem?_eq_getElem (by rw [←hdi];exact lZ _ _ (by omega))⟩;have hdil:di<ds.length:=(List.getElem?_eq_some_iff.1 hr).1;have hrm:r.1∈ds.map (·.1):=List.mem_map.2 ⟨r,List.mem_of_getElem? hr,rfl⟩;have hdl9:=hdl r.1 (by rw [←hds2];exact hrm);obtain ⟨b8,hb8⟩:∃b,b=1000*(di+1)+104:=⟨_,rfl⟩;have hdown:j1 di r= .own b8 r.2 r.1.legs.length 2:=by rw [hb8];rfl
   have hdg3:=vV ds di r hr;rw [hdown] at hdg3;have hdf:=dy ds 0;have hFq8:∀c,c<1000->((b8=c)=False/\(c=b8)=False):=fun c hc=>⟨by simp;omega,by simp;omega⟩
   have hFq851:=hFq8 51 (by decide);have hFq815:=hFq8 15 (by decide);have hFq849:=hFq8 49 (by decide);have hFq877:=hFq8 77 (by decide);have hFq8174:=hFq8 174 (by decide);have hFq8175:=hFq8 175 (by decide);have htb8:cF 38 44 ps ds b8=some ⟨r.2,44,2,r.1.legs.length,ar bp r.1.legs⟩:=by rw [hb8];exact gH hr
   refine awD (scq [1] (scT 2 14 (.two 1 16 (scq [32,34,37,39,40] .nil) (.two 1 17 (scq [34,37,39,40] .nil) (scq [3,37,39,40] .nil))))) [0,0,0,0,0,0,0,0,0,0,0,0,0,0,0,0,0,0,0,0,0] ?_;simp only [F49,seval,w0,w1x,w2x,w3x,w4x,hd,hdg3,hdf,hFq851,hFq815,hFq849,hFq877,hFq8174,hFq8175,htb8];repeat refine ob ?_
   refine ⟨?_,?_⟩
   ·repeat refine ob ?_
    have hs1:∀x,spl (dRw ds 0) (di*4+3) [x]=(dRw ds 0).set (di*4+3) x:=fun x=>bY _ _ _ (by rw [dy];omega)
    refine aE (up (cF 38 44 ps ds) b8 none) [5,6,14,15,16,17,18] [51,15,49,77,175] (by intro y B h;rw [aj] at h;by_cases hy8:y=b8;(rw [if_pos hy8] at h;cases h);rw [if_neg hy8] at h;right;rcases aZ h with ⟨q,r,rfl,h2,h3⟩|⟨q,r,rfl,h2,h3⟩<;>(try simp only [aj])<;>(repeat rw [if_neg (by omega)])<;>exact h) ?_;simp only [F49,seval,hs1];refine il 175 b8 51 (di*4+3) (by rfl) (by rfl) (by show (List.set _ _ _)[_]? =_;exact List.getElem?_set_self (by rw [dy];omega)) (by decide) (by omega) (by show (2:Nat)≠0;decide) (by show (4:Nat)≠0;decide) rfl (fun t9=>?_);have hdr9:=jE ds 0 di r (⟨r.1.whole,(r.1.legs++[⟨(gi:Int),(ci:Int)+by9.tmod 3⟩])⟩,t9) hr rfl;rw [Nat.zero_add] at hdr9;have hdo9:j1 di ((⟨r.1.whole,(r.1.legs++[⟨(gi:Int),(ci:Int)+by9.tmod 3⟩])⟩,t9):GDebt×Nat)= .own b8 t9 (r.1.legs.length+1) 2:=by rw [hb8];simp [j1]
    rw [hdo9] at hdr9;simp only [F49,seval,List.set_set,hFq851,hFq815,hFq849,hFq877,hFq8174,hFq8175,hdr9];refine aE (cF 38 44 ps (ds.set di (⟨r.1.whole,(r.1.legs++[⟨(gi:Int),(ci:Int)+by9.tmod 3⟩])⟩,t9))) [5,6,14,15,16,17,18] [51,15,49,77] (fun y B h=>?tq) ?_;case tq=>
     right;rcases aZ h with ⟨a,q9,rfl,h2,rfl⟩|⟨a,q9,rfl,h2,rfl⟩
     ·simp only [aj];repeat rw [if_neg (by omega)]
      exact iE h2
     by_cases hai:a=di
     ·rw [hai] at h2 ⊢;rw [List.getElem?_set_self hdil] at h2;obtain rfl:=Option.some.inj h2;simp only [aj,←hb8,hFq851,hFq815,hFq849,hFq877,hFq8175,if_true,if_false];rw [aV,List.length_append];try rfl
     rw [List.getElem?_set_ne (fun h=>hai h.symm)] at h2;simp only [aj];repeat rw [if_neg (by omega)]
     exact gH h2
    simp only [F49,seval,hFq851,hFq815,hFq849,hFq877,hFq8175];refine be (b7 38 44 42 51 [(15,_),(49,_),(77,_)] (by simp) (by decide) _ _ ps (ds.set di (⟨r.1.whole,(r.1.legs++[⟨(gi:Int),(ci:Int)+by9.tmod 3⟩])⟩,t9))) ?_;simp only [F49,seval];refine ao 51 15 1 (by rfl) (by rfl) (by rfl) (by decide) (by show (4:Nat)≠0;decide) (by show (2:Nat)≠0;decide) rfl ?_;simp only [F49,seval];refine ao 77 49 (gi*5+4) (by rfl) (by rfl) hx4 (by decide) (by show (1:Nat)≠0;decide) (by show (5:Nat)≠0;decide) rfl ?_;simp only [F49,seval,hag77,hpb,bq];refine aE (tbl 103 38 ps) [5,6,14,15,16,17,18] [49,15] (by intro y B h;obtain ⟨q,r,rfl,h2,h3⟩:=bD h;right;(try simp only [aj]);(repeat rw [if_neg (by omega)]);exact h) ?_;simp only [F49,seval];refine be (bZ 103 38 36 (by decide) 49 [(15,_)] (by simp) (by decide) _ _ ps) ?_;rw [bP];simp only [F49,seval];refine ao 49 15 0 (by rfl) (by rfl) (by rfl) (by decide) (by show (5:Nat)≠0;decide) (by show (2:Nat)≠0;decide) rfl ?_;simp only [F49,seval];have hok9:b5 ⟨ps.map (·.1),(ds.set di (⟨r.1.whole,(r.1.legs++[⟨(gi:Int),(ci:Int)+by9.tmod 3⟩])⟩,t9)).map (·.1)⟩:=by rw [List.map_set];exact fQ hok0 di _ (hok0.2.1 r.1 hrm) (by have:=hdl9;show (r.1.legs++[_]).length<=_;rw [List.length_append];simp;omega)
    have hC:=b0 ⟨ps.map (·.1),(ds.set di (⟨r.1.whole,(r.1.legs++[⟨(gi:Int),(ci:Int)+by9.tmod 3⟩])⟩,t9)).map (·.1)⟩ (bJ hok9);have hD:=b6 ⟨ps.map (·.1),(ds.set di (⟨r.1.whole,(r.1.legs++[⟨(gi:Int),(ci:Int)+by9.tmod 3⟩])⟩,t9)).map (·.1)⟩ hok9;rw [←ez] at hD;simp only [au,List.length_map,List.length_set,List.length_append,List.length_cons,List.length_nil,Nat.zero_add] at hC hD;refine awD (scq [0,3,5,9,6,10,13,15,17] .nil) [0,0,393,393,393,393,393,0,0] ?_;simp only [F49,seval,w0,w1x,w2x,w3x,w4x,hd,BEq.rfl,au,ab ak,ab ai];repeat refine ob ?_
    refine ⟨_,bK,(by first|rfl|simp [bu,aI,av,az,A1.cells,au,ab ak,ab ai]),?_⟩;try simp only [aq,F49,seval,w0,w1x,w2x,w3x,w4x,hd,BEq.rfl,au,ab ak,ab ai]
    repeat refine ob ?_
    refine ⟨_,hC,(by first|rfl|simp [bu,aI,av,az,A1.cells,au,ab ak,ab ai]),?_⟩;try simp only [aq,F49,seval,w0,w1x,w2x,w3x,w4x,hd,BEq.rfl,au,ab ak,ab ai]
    repeat refine ob ?_
    refine ⟨_,hD,(by first|rfl|simp [bu,aI,av,az,A1.cells,au,ab ak,ab ai]),?_⟩;try simp only [aq,F49,seval,w0,w1x,w2x,w3x,w4x,hd,BEq.rfl,au,ab ak,ab ai]
    repeat refine ob ?_
    refine awX ?_;(first|(simp only [F49,seval,w0,w1x,w2x,w3x,w4x,hd];done)|(simp only [F49,seval];first|(simp [w0,w1x,w2x,w3x,w4x,hd];done)))
   repeat refine ob ?_
   refine ⟨?_,?_⟩
   ·repeat refine ob ?_
    have hs1:∀x,spl (dRw ds 0) (di*4+3) [x]=(dRw ds 0).set (di*4+3) x:=fun x=>bY _ _ _ (by rw [dy];omega)
    refine aE (up (cF 38 44 ps ds) b8 none) [5,6,14,15,16,17,18] [51,15,49,77,175] (by intro y B h;rw [aj] at h;by_cases hy8:y=b8;(rw [if_pos hy8] at h;cases h);rw [if_neg hy8] at h;right;rcases aZ h with ⟨q,r,rfl,h2,h3⟩|⟨q,r,rfl,h2,h3⟩<;>(try simp only [aj])<;>(repeat rw [if_neg (by omega)])<;>exact h) ?_;simp only [F49,seval,hs1];refine il 175 b8 51 (di*4+3) (by rfl) (by rfl) (by show (List.set _ _ _)[_]? =_;exact List.getElem?_set_self (by rw [dy];omega)) (by decide) (by omega) (by show (2:Nat)≠0;decide) (by show (4:Nat)≠0;decide) rfl (fun t9=>?_);have hdr9:=jE ds 0 di r (⟨r.1.whole,(r.1.legs++[⟨(gi:Int),(ci:Int)+by9.tmod 3⟩])⟩,t9) hr rfl;rw [Nat.zero_add] at hdr9;have hdo9:j1 di ((⟨r.1.whole,(r.1.legs++[⟨(gi:Int),(ci:Int)+by9.tmod 3⟩])⟩,t9):GDebt×Nat)= .own b8 t9 (r.1.legs.length+1) 2:=by rw [hb8];simp [j1]
    rw [hdo9] at hdr9;simp only [F49,seval,List.set_set,hFq851,hFq815,hFq849,hFq877,hFq8174,hFq8175,hdr9];refine aE (cF 38 44 ps (ds.set di (⟨r.1.whole,(r.1.legs++[⟨(gi:Int),(ci:Int)+by9.tmod 3⟩])⟩,t9))) [5,6,14,15,16,17,18] [51,15,49,77] (fun y B h=>?tq) ?_;case tq=>
     right;rcases aZ h with ⟨a,q9,rfl,h2,rfl⟩|⟨a,q9,rfl,h2,rfl⟩
     ·simp only [aj];repeat rw [if_neg (by omega)]
      exact iE h2
     by_cases hai:a=di
     ·rw [hai] at h2 ⊢;rw [List.getElem?_set_self hdil] at h2;obtain rfl:=Option.some.inj h2;simp only [aj,←hb8,hFq851,hFq815,hFq849,hFq877,hFq8175,if_true,if_false];rw [aV,List.length_append];try rfl
     rw [List.getElem?_set_ne (fun h=>hai h.symm)] at h2;simp only [aj];repeat rw [if_neg (by omega)]
     exact gH h2
    simp only [F49,seval,hFq851,hFq815,hFq849,hFq877,hFq8175];refine be (b7 38 44 42 51 [(15,_),(49,_),(77,_)] (by simp) (by decide) _ _ ps (ds.set di (⟨r.1.whole,(r.1.legs++[⟨(gi:Int),(ci:Int)+by9.tmod 3⟩])⟩,t9))) ?_;simp only [F49,seval];refine ao 51 15 1 (by rfl) (by rfl) (by rfl) (by decide) (by show (4:Nat)≠0;decide) (by show (2:Nat)≠0;decide) rfl ?_;simp only [F49,seval];refine ao 77 49 (gi*5+4) (by rfl) (by rfl) hx4 (by decide) (by show (1:Nat)≠0;decide) (by show (5:Nat)≠0;decide) rfl ?_;simp only [F49,seval,hag77,hpb,bq];refine aE (tbl 103 38 ps) [5,6,14,15,16,17,18] [49,15] (by intro y B h;obtain ⟨q,r,rfl,h2,h3⟩:=bD h;right;(try simp only [aj]);(repeat rw [if_neg (by omega)]);exact h) ?_;simp only [F49,seval];refine be (bZ 103 38 36 (by decide) 49 [(15,_)] (by simp) (by decide) _ _ ps) ?_;rw [bP];simp only [F49,seval];refine ao 49 15 0 (by rfl) (by rfl) (by rfl) (by decide) (by show (5:Nat)≠0;decide) (by show (2:Nat)≠0;decide) rfl ?_;simp only [F49,seval];have hok9:b5 ⟨ps.map (·.1),(ds.set di (⟨r.1.whole,(r.1.legs++[⟨(gi:Int),(ci:Int)+by9.tmod 3⟩])⟩,t9)).map (·.1)⟩:=by rw [List.map_set];exact fQ hok0 di _ (hok0.2.1 r.1 hrm) (by have:=hdl9;show (r.1.legs++[_]).length<=_;rw [List.length_append];simp;omega)
    have hC:=b0 ⟨ps.map (·.1),(ds.set di (⟨r.1.whole,(r.1.legs++[⟨(gi:Int),(ci:Int)+by9.tmod 3⟩])⟩,t9)).map (·.1)⟩ (bJ hok9);have hD:=b6 ⟨ps.map (·.1),(ds.set di (⟨r.1.whole,(r.1.legs++[⟨(gi:Int),(ci:Int)+by9.tmod 3⟩])⟩,t9)).map (·.1)⟩ hok9;rw [←ez] at hD;simp only [au,List.length_map,List.length_set,List.length_append,List.length_cons,List.length_nil,Nat.zero_add] at hC hD;refine awD (scq [0,3,5,9,6,10,13,15,17] .nil) [0,0,393,393,393,393,393,0,0] ?_;simp only [F49,seval,w0,w1x,w2x,w3x,w4x,hd,BEq.rfl,au,ab ak,ab ai];repeat refine ob ?_
    refine ⟨_,bK,(by first|rfl|simp [bu,aI,av,az,A1.cells,au,ab ak,ab ai]),?_⟩;try simp only [aq,F49,seval,w0,w1x,w2x,w3x,w4x,hd,BEq.rfl,au,ab ak,ab ai]
    repeat refine ob ?_
    refine ⟨_,hC,(by first|rfl|simp [bu,aI,av,az,A1.cells,au,ab ak,ab ai]),?_⟩;try simp only [aq,F49,seval,w0,w1x,w2x,w3x,w4x,hd,BEq.rfl,au,ab ak,ab ai]
    repeat refine ob ?_
    refine ⟨_,hD,(by first|rfl|simp [bu,aI,av,az,A1.cells,au,ab ak,ab ai]),?_⟩;try simp only [aq,F49,seval,w0,w1x,w2x,w3x,w4x,hd,BEq.rfl,au,ab ak,ab ai]
    repeat refine ob ?_
    refine awX ?_;(first|(simp only [F49,seval,w0,w1x,w2x,w3x,w4x,hd];done)|(simp only [F49,seval];first|(simp [w0,w1x,w2x,w3x,w4x,hd];done)))
   repeat refine ob ?_
   have hs1:∀x,spl (dRw ds 0) (di*4+3) [x]=(dRw ds 0).set (di*4+3) x:=fun x=>bY _ _ _ (by rw [dy];omega)
   refine aE (up (cF 38 44 ps ds) b8 none) [5,6,14,15,16,17,18] [51,15,49,77,175] (by intro y B h;rw [aj] at h;by_cases hy8:y=b8;(rw [if_pos hy8] at h;cases h);rw [if_neg hy8] at h;right;rcases aZ h with ⟨q,r,rfl,h2,h3⟩|⟨q,r,rfl,h2,h3⟩<;>(try simp only [aj])<;>(repeat rw [if_neg (by omega)])<;>exact h) ?_;simp only [F49,seval,hs1];refine il 175 b8 51 (di*4+3) (by rfl) (by rfl) (by show (List.set _ _ _)[_]? =_;exact List.getElem?_set_self (by rw [dy];omega)) (by decide) (by omega) (by show (2:Nat)≠0;decide) (by show (4:Nat)≠0;decide) rfl (fun t9=>?_);have hdr9:=jE ds 0 di r (⟨r.1.whole,(r.1.legs++[⟨(gi:Int),(ci:Int)+by9.tmod 3⟩])⟩,t9) hr rfl;rw [Nat.zero_add] at hdr9;have hdo9:j1 di ((⟨r.1.whole,(r.1.legs++[⟨(gi:Int),(ci:Int)+by9.tmod 3⟩])⟩,t9):GDebt×Nat)= .own b8 t9 (r.1.legs.length+1) 2:=by rw [hb8];simp [j1]
   rw [hdo9] at hdr9;simp only [F49,seval,List.set_set,hFq851,hFq815,hFq849,hFq877,hFq8174,hFq8175,hdr9];refine aE (cF 38 44 ps (ds.set di (⟨r.1.whole,(r.1.legs++[⟨(gi:Int),(ci:Int)+by9.tmod 3⟩])⟩,t9))) [5,6,14,15,16,17,18] [51,15,49,77] (fun y B h=>?tq) ?_;case tq=>
    right;rcases aZ h with ⟨a,q9,rfl,h2,rfl⟩|⟨a,q9,rfl,h2,rfl⟩
    ·simp only [aj];repeat rw [if_neg (by omega)]
     exact iE h2
    by_cases hai:a=di
    ·rw [hai] at h2 ⊢;rw [List.getElem?_set_self hdil] at h2;obtain rfl:=Option.some.inj h2;simp only [aj,←hb8,hFq851,hFq815,hFq849,hFq877,hFq8175,if_true,if_false];rw [aV,List.length_append];try rfl
    rw [List.getElem?_set_ne (fun h=>hai h.symm)] at h2;simp only [aj];repeat rw [if_neg (by omega)]
    exact gH h2
   simp only [F49,seval,hFq851,hFq815,hFq849,hFq877,hFq8175];refine be (b7 38 44 42 51 [(15,_),(49,_),(77,_)] (by simp) (by decide) _ _ ps (ds.set di (⟨r.1.whole,(r.1.legs++[⟨(gi:Int),(ci:Int)+by9.tmod 3⟩])⟩,t9))) ?_;simp only [F49,seval];refine ao 51 15 1 (by rfl) (by rfl) (by rfl) (by decide) (by show (4:Nat)≠0;decide) (by show (2:Nat)≠0;decide) rfl ?_;simp only [F49,seval];refine ao 77 49 (gi*5+4) (by rfl) (by rfl) hx4 (by decide) (by show (1:Nat)≠0;decide) (by show (5:Nat)≠0;decide) rfl ?_;simp only [F49,seval,hag77,hpb,bq];refine aE (tbl 103 38 ps) [5,6,14,15,16,17,18] [49,15] (by intro y B h;obtain ⟨q,r,rfl,h2,h3⟩:=bD h;right;(try simp only [aj]);(repeat rw [if_neg (by omega)]);exact h) ?_;simp only [F49,seval];refine be (bZ 103 38 36 (by decide) 49 [(15,_)] (by simp) (by decide) _ _ ps) ?_;rw [bP];simp only [F49,seval];refine ao 49 15 0 (by rfl) (by rfl) (by rfl) (by decide) (by show (5:Nat)≠0;decide) (by show (2:Nat)≠0;decide) rfl ?_;simp only [F49,seval];have hok9:b5 ⟨ps.map (·.1),(ds.set di (⟨r.1.whole,(r.1.legs++[⟨(gi:Int),(ci:Int)+by9.tmod 3⟩])⟩,t9)).map (·.1)⟩:=by rw [List.map_set];exact fQ hok0 di _ (hok0.2.1 r.1 hrm) (by have:=hdl9;show (r.1.legs++[_]).length<=_;rw [List.length_append];simp;omega)
   have hC:=b0 ⟨ps.map (·.1),(ds.set di (⟨r.1.whole,(r.1.legs++[⟨(gi:Int),(ci:Int)+by9.tmod 3⟩])⟩,t9)).map (·.1)⟩ (bJ hok9);have hD:=b6 ⟨ps.map (·.1),(ds.set di (⟨r.1.whole,(r.1.legs++[⟨(gi:Int),(ci:Int)+by9.tmod 3⟩])⟩,t9)).map (·.1)⟩ hok9;rw [←ez] at hD;simp only [au,List.length_map,List.length_set,List.length_append,List.length_cons,List.length_nil,Nat.zero_add] at hC hD;refine awD (scq [0,3,5,9,6,10,13,15,17] .nil) [0,0,393,393,393,393,393,0,0] ?_;simp only [F49,seval,w0,w1x,w2x,w3x,w4x,hd,BEq.rfl,au,ab ak,ab ai];repeat refine ob ?_
   refine ⟨_,bK,(by first|rfl|simp [bu,aI,av,az,A1.cells,au,ab ak,ab ai]),?_⟩;try simp only [aq,F49,seval,w0,w1x,w2x,w3x,w4x,hd,BEq.rfl,au,ab ak,ab ai]
   repeat refine ob ?_
   refine ⟨_,hC,(by first|rfl|simp [bu,aI,av,az,A1.cells,au,ab ak,ab ai]),?_⟩;try simp only [aq,F49,seval,w0,w1x,w2x,w3x,w4x,hd,BEq.rfl,au,ab ak,ab ai]
   repeat refine ob ?_
   refine ⟨_,hD,(by first|rfl|simp [bu,aI,av,az,A1.cells,au,ab ak,ab ai]),?_⟩;try simp only [aq,F49,seval,w0,w1x,w2x,w3x,w4x,hd,BEq.rfl,au,ab ak,ab ai]
   repeat refine ob ?_
   refine awX ?_;(first|(simp only [F49,seval,w0,w1x,w2x,w3x,w4x,hd];done)|(simp only [F49,seval];first|(simp [w0,w1x,w2x,w3x,w4x,hd];done)))
  refine awN ?_;simp only [F49,seval,w0,w1x,w2x,w3x,w4x,hd];repeat refine ob ?_
  refine awF ?_;refine awK ?_;simp only [F49,seval];refine aE (cF 38 44 ps ds) [5,6,14,15,16,17,18] [51,15,49,77] (by intro y B h;right;rcases aZ h with ⟨q,r,rfl,h2,h3⟩|⟨q,r,rfl,h2,h3⟩<;>(try simp only [aj])<;>(repeat rw [if_neg (by omega)])<;>exact h) ?_;simp only [F49,seval];refine be (b7 38 44 42 51 [(15,_),(49,_),(77,_)] (by simp) (by decide) _ _ ps ds) ?_;simp only [F49,seval];refine ao 51 15 1 (by rfl) (by rfl) (by rfl) (by decide) (by show (4:Nat)≠0;decide) (by show (2:Nat)≠0;decide) rfl ?_;simp only [F49,seval];refine ao 77 49 (gi*5+4) (by rfl) (by rfl) hx4 (by decide) (by show (1:Nat)≠0;decide) (by show (5:Nat)≠0;decide) rfl ?_;simp only [F49,seval,hag77,hpb,bq];refine aE (tbl 103 38 ps) [5,6,14,15,16,17,18] [49,15] (by intro y B h;obtain ⟨q,r,rfl,h2,h3⟩:=bD h;right;(try simp only [aj]);(repeat rw [if_neg (by omega)]);exact h) ?_;simp only [F49,seval];refine be (bZ 103 38 36 (by decide) 49 [(15,_)] (by simp) (by decide) _ _ ps) ?_;rw [bP];simp only [F49,seval];refine ao 49 15 0 (by rfl) (by rfl) (by rfl) (by decide) (by show (5:Nat)≠0;decide) (by show (2:Nat)≠0;decide) rfl ?_;simp only [F49,seval];have hok9:b5 ⟨ps.map (·.1),ds.map (·.1)⟩:=hok0;have hC:=b0 ⟨ps.map (·.1),ds.map (·.1)⟩ (bJ hok9);have hD:=b6 ⟨ps.map (·.1),ds.map (·.1)⟩ hok9;rw [←ez] at hD;simp only [au,List.length_map,List.length_set,List.length_append,List.length_cons,List.length_nil,Nat.zero_add] at hC hD;refine awD (scq [0,3,5,9,6,10,13,15,17] .nil) [0,0,393,393,393,393,393,0,0] ?_;simp only [F49,seval,w0,w1x,w2x,w3x,w4x,hd,BEq.rfl,au,ab ak,ab ai];repeat refine ob ?_
  refine ⟨_,bK,(by first|rfl|simp [bu,aI,av,az,A1.cells,au,ab ak,ab ai]),?_⟩;try simp only [aq,F49,seval,w0,w1x,w2x,w3x,w4x,hd,BEq.rfl,au,ab ak,ab ai]
  repeat refine ob ?_
  refine ⟨_,hC,(by first|rfl|simp [bu,aI,av,az,A1.cells,au,ab ak,ab ai]),?_⟩;try simp only [aq,F49,seval,w0,w1x,w2x,w3x,w4x,hd,BEq.rfl,au,ab ak,ab ai]
  repeat refine ob ?_
  refine ⟨_,hD,(by first|rfl|simp [bu,aI,av,az,A1.cells,au,ab ak,ab ai]),?_⟩;try simp only [aq,F49,seval,w0,w1x,w2x,w3x,w4x,hd,BEq.rfl,au,ab ak,ab ai]
  repeat refine ob ?_
  refine awX ?_;(first|(simp only [F49,seval,w0,w1x,w2x,w3x,w4x,hd];done)|(simp only [F49,seval];first|(simp [w0,w1x,w2x,w3x,w4x,hd];done)))
 refine awN ?_;simp only [F49,seval,w0,w1x,w2x,w3x,w4x];repeat refine ob ?_
 refine awF ?_;by_cases w5x:((k:Nat):Int)=5
 ·refine awN ?_;simp only [F49,seval,w0,w1x,w2x,w3x,w4x,w5x];repeat refine ob ?_
  refine awT ?_;by_cases hd:(0:Int)<(ds.length:Int)
  ·refine awN ?_;simp only [F49,seval,w0,w1x,w2x,w3x,w4x,w5x,hd];repeat refine ob ?_
   refine awT ?_;obtain ⟨r,hr⟩:∃r,ds[di]? =some r:=⟨_,List.getElem?_eq_getElem (by rw [←hdi];exact lZ _ _ (by omega))⟩;have hdil:di<ds.length:=(List.getElem?_eq_some_iff.1 hr).1;have hrm:r.1∈ds.map (·.1):=List.mem_map.2 ⟨r,List.mem_of_getElem? hr,rfl⟩;have hdl9:=hdl r.1 (by rw [←hds2];exact hrm);refine aE (cF 38 44 ps ds) [5,6,14,15,16,17,18] [51,15,49,77] (by intro y B h;right;rcases aZ h with ⟨q,r,rfl,h2,h3⟩|⟨q,r,rfl,h2,h3⟩<;>(try simp only [aj])<;>(repeat rw [if_neg (by omega)])<;>exact h) ?_;simp only [F49,seval];refine be (b7 38 44 42 51 [(15,_),(49,_),(77,_)] (by simp) (by decide) _ _ ps ds) ?_;simp only [F49,seval];have hld:=aS dT (ds.map (·.1));rw [List.length_map] at hld;have hrm9:(ds.map (·.1))[di]'(by simpa using hdil)=r.1:=by rw [List.getElem_map,(List.getElem?_eq_some_iff.1 hr).2]
   have hatd:=aO dT (ds.map (·.1)) di (by simpa using hdil);rw [hrm9] at hatd;refine awD (scT 0 7 (scq [14,16,19,20] .nil)) [0,0,0,0,0,0,0,0,0,0,0] ?_;simp only [F49,seval,w0,w1x,w2x,w3x,w4x,w5x,hd,hld,hatd,cn];repeat refine ob ?_
   have hfa:ar cn (ds.map (·.1))++[.lit (.bool r.1.whole.neg),.lit (.string r.1.whole.num),.lit (.string r.1.whole.den),.sh 2 r.1.legs.length (ar bp r.1.legs)]=ar cn (ds.map (·.1)++[r.1]):=by rw [aV];rfl
   simp only [F49,seval,hfa];refine ao 192 15 1 (by rfl) (by rfl) (by rfl) (by decide) (by show (4:Nat)≠0;decide) (by show (2:Nat)≠0;decide) rfl ?_;simp only [F49,seval];refine ao 77 49 (gi*5+4) (by rfl) (by rfl) hx4 (by decide) (by show (1:Nat)≠0;decide) (by show (5:Nat)≠0;decide) rfl ?_;simp only [F49,seval,hag77,hpb,bq];refine aE (tbl 103 38 ps) [5,6,14,15,16,17,18] [49,15] (by intro y B h;obtain ⟨q,r,rfl,h2,h3⟩:=bD h;right;(try simp only [aj]);(repeat rw [if_neg (by omega)]);exact h) ?_;simp only [F49,seval];refine be (bZ 103 38 36 (by decide) 49 [(15,_)] (by simp) (by decide) _ _ ps) ?_;rw [bP];simp only [F49,seval];refine ao 49 15 0 (by rfl) (by rfl) (by rfl) (by decide) (by show (5:Nat)≠0;decide) (by show (2:Nat)≠0;decide) rfl ?_;simp only [F49,seval];have hok9:b5 ⟨ps.map (·.1),ds.map (·.1)++[r.1]⟩:=pY hok0 r.1 hrm;have hC:=b0 ⟨ps.map (·.1),ds.map (·.1)++[r.1]⟩ (bJ hok9);have hD:=b6 ⟨ps.map (·.1),ds.map (·.1)++[r.1]⟩ hok9;rw [←ez] at hD;simp only [au,List.length_map,List.length_set,List.length_append,List.length_cons,List.length_nil,Nat.zero_add] at hC hD;refine awD (scq [0,3,5,9,6,10,13,15,17] .nil) [0,0,393,393,393,393,393,0,0] ?_;simp only [F49,seval,w0,w1x,w2x,w3x,w4x,w5x,hd,BEq.rfl,au,ab ak,ab ai];repeat refine ob ?_
   refine ⟨_,bK,(by first|rfl|simp [bu,aI,av,az,A1.cells,au,ab ak,ab ai]),?_⟩;try simp only [aq,F49,seval,w0,w1x,w2x,w3x,w4x,w5x,hd,BEq.rfl,au,ab ak,ab ai]
   repeat refine ob ?_
   refine ⟨_,hC,(by first|rfl|simp [bu,aI,av,az,A1.cells,au,ab ak,ab ai]),?_⟩;try simp only [aq,F49,seval,w0,w1x,w2x,w3x,w4x,w5x,hd,BEq.rfl,au,ab ak,ab ai]
   repeat refine ob ?_
   refine ⟨_,hD,(by first|rfl|simp [bu,aI,av,az,A1.cells,au,ab ak,ab ai]),?_⟩;try simp only [aq,F49,seval,w0,w1x,w2x,w3x,w4x,w5x,hd,BEq.rfl,au,ab ak,ab ai]
   repeat refine ob ?_
   refine awX ?_;(first|(simp only [F49,seval,w0,w1x,w2x,w3x,w4x,w5x,hd];done)|(simp only [F49,seval];first|(simp [w0,w1x,w2x,w3x,w4x,w5x,hd];done)))
  refine awN ?_;simp only [F49,seval,w0,w1x,w2x,w3x,w4x,w5x,hd];repeat refine ob ?_
  refine awF ?_;refine awK ?_;simp only [F49,seval];refine aE (cF 38 44 ps ds) [5,6,14,15,16,17,18] [51,15,49,77] (by intro y B h;right;rcases aZ h with ⟨q,r,rfl,h2,h3⟩|⟨q,r,rfl,h2,h3⟩<;>(try simp only [aj])<;>(repeat rw [if_neg (by omega)])<;>exact h) ?_;simp only [F49,seval];refine be (b7 38 44 42 51 [(15,_),(49,_),(77,_)] (by simp) (by decide) _ _ ps ds) ?_;simp only [F49,seval];refine ao 51 15 1 (by rfl) (by rfl) (by rfl) (by decide) (by show (4:Nat)≠0;decide) (by show (2:Nat)≠0;decide) rfl ?_;simp only [F49,seval];refine ao 77 49 (gi*5+4) (by rfl) (by rfl) hx4 (by decide) (by show (1:Nat)≠0;decide) (by show (5:Nat)≠0;decide) rfl ?_;simp only [F49,seval,hag77,hpb,bq];refine aE (tbl 103 38 ps) [5,6,14,15,16,17,18] [49,15] (by intro y B h;obtain ⟨q,r,rfl,h2,h3⟩:=bD h;right;(try simp only [aj]);(repeat rw [if_neg (by omega)]);exact h) ?_;simp only [F49,seval];refine be (bZ 103 38 36 (by decide) 49 [(15,_)] (by simp) (by decide) _ _ ps) ?_;rw [bP];simp only [F49,seval];refine ao 49 15 0 (by rfl) (by rfl) (by rfl) (by decide) (by show (5:Nat)≠0;decide) (by show (2:Nat)≠0;decide) rfl ?_;simp only [F49,seval];have hok9:b5 ⟨ps.map (·.1),ds.map (·.1)⟩:=hok0;have hC:=b0 ⟨ps.map (·.1),ds.map (·.1)⟩ (bJ hok9);have hD:=b6 ⟨ps.map (·.1),ds.map (·.1)⟩ hok9;rw [←ez] at hD;simp only [au,List.length_map,List.length_set,List.length_append,List.length_cons,List.length_nil,Nat.zero_add] at hC hD;refine awD (scq [0,3,5,9,6,10,13,15,17] .nil) [0,0,393,393,393,393,393,0,0] ?_;simp only [F49,seval,w0,w1x,w2x,w3x,w4x,w5x,hd,BEq.rfl,au,ab ak,ab ai];repeat refine ob ?_
  refine ⟨_,bK,(by first|rfl|simp [bu,aI,av,az,A1.cells,au,ab ak,ab ai]),?_⟩;try simp only [aq,F49,seval,w0,w1x,w2x,w3x,w4x,w5x,hd,BEq.rfl,au,ab ak,ab ai]
  repeat refine ob ?_
  refine ⟨_,hC,(by first|rfl|simp [bu,aI,av,az,A1.cells,au,ab ak,ab ai]),?_⟩;try simp only [aq,F49,seval,w0,w1x,w2x,w3x,w4x,w5x,hd,BEq.rfl,au,ab ak,ab ai]
  repeat refine ob ?_
  refine ⟨_,hD,(by first|rfl|simp [bu,aI,av,az,A1.cells,au,ab ak,ab ai]),?_⟩;try simp only [aq,F49,seval,w0,w1x,w2x,w3x,w4x,w5x,hd,BEq.rfl,au,ab ak,ab ai]
  repeat refine ob ?_
  refine awX ?_;(first|(simp only [F49,seval,w0,w1x,w2x,w3x,w4x,w5x,hd];done)|(simp only [F49,seval];first|(simp [w0,w1x,w2x,w3x,w4x,w5x,hd];done)))
 refine awN ?_;simp only [F49,seval,w0,w1x,w2x,w3x,w4x,w5x];repeat refine ob ?_
 refine awF ?_;have hWh:=fG by9 (by omega) (by omega);have hal9:q.1.agrs.length<=1000:=by have:=hb6.2.1;omega
 refine awD (scq [1] (scT 2 17 (.two 1 19 (scq [38,41,42,44,47,48,50,53,55,56] .nil) (scq [41] (.two 1 21 (scq [42,44,47,48,50,53,55,56] .nil) (.two 1 22 (scq [44,47,48,50,53,55,56] .nil) (scq [47] (.two 1 24 (scq [48,50,53,55,56] .nil) (.two 1 25 (scq [50,53,55,56] .nil) (scq [3,53,55,56] .nil)))))))))) [0,0,0,0,0,0,0,0,0,0,0,0,0,0,0,0,0,0,0,0,0,0,0,0,0,0,0,0,0] ?_;simp only [F49,seval,w0,w1x,w2x,w3x,w4x,w5x,(id SD),hx4,hfl,cS];repeat refine ob ?_
 refine ⟨?_,?_⟩
 ·repeat refine ob ?_
  repeat refine ob ?_
  refine ⟨_,hWh,(by first|rfl|simp [bu,aI,av,az,A1.cells]),?_⟩;try simp only [aq,F49,seval,w0,w1x,w2x,w3x,w4x,w5x,(id SD),hx4,hfl,cS]
  repeat refine ob ?_
  have hs1:∀x,spl (bQ (some (gi,t)) ps 0) (gi*5+4) [x]=(bQ (some (gi,t)) ps 0).set (gi*5+4) x:=fun x=>bY _ _ _ (by rw [bL];omega)
  have hfa:=aS dG q.1.agrs;rw [Nat.mul_one] at hfa;simp only [F49,seval,hs1,hag77];refine ao 71 72 0 (by rfl) (by rfl) (by rfl) (by decide) (by show (5:Nat)≠0;decide) (by show (1:Nat)≠0;decide) rfl ?_;simp only [F49,seval];refine ao 72 75 q.1.agrs.length (by rfl) (by rfl) (by show (ar aU q.1.agrs++[_])[_]? =_;rw [List.getElem?_append_right (by omega),hfa,Nat.sub_self];rfl) (by decide) (by show (1:Nat)≠0;decide) (by show (1:Nat)≠0;decide) rfl ?_;have hst9:∀x y:C,(ar aU q.1.agrs++[x]).set q.1.agrs.length y=ar aU q.1.agrs++[y]:=fun x y=>by rw [List.set_append_right _ _ (by omega),hfa,Nat.sub_self];rfl
  have hap9:ar aU q.1.agrs++[.sh 1 1 [.sh 5 1 [.lit (.int .i64 ((ci:Int)+by9.tmod 3)),.lit (.bool (decide (by9.tmod 2=0))),.lit (.bool (enc (by9:Rat)).neg),.lit (.string (enc (by9:Rat)).num),.lit (.string (enc (by9:Rat)).den)]]]=ar aU (q.1.agrs++[[[⟨(ci:Int)+by9.tmod 3,decide (by9.tmod 2=0),enc (by9:Rat)⟩]]]):=by rw [aV];rfl
  simp only [F49,seval,hst9,hap9];refine ao 75 49 (gi*5+4) (by rfl) (by rfl) (by show (List.set _ _ _)[_]? =_;exact List.getElem?_set_self (by rw [bL];omega)) (by decide) (by show (1:Nat)≠0;decide) (by show (5:Nat)≠0;decide) rfl ?_;have hpb9:=fu gi t ps q (q.1.agrs++[[[⟨(ci:Int)+by9.tmod 3,decide (by9.tmod 2=0),enc (by9:Rat)⟩]]]) hq;have hln9:∀x:cw,(q.1.agrs++[x]).length=q.1.agrs.length+1:=fun x=>by simp
  rw [hln9] at hpb9;simp only [F49,seval,List.set_set,hpb9,bq];refine aE (cF 38 44 ps ds) [5,6,14,15,16,17,18] [51,15,49] (by intro y B h;right;rcases aZ h with ⟨q,r,rfl,h2,h3⟩|⟨q,r,rfl,h2,h3⟩<;>(try simp only [aj])<;>(repeat rw [if_neg (by omega)])<;>exact h) ?_;simp only [F49,seval];refine be (b7 38 44 42 51 [(15,_),(49,_)] (by simp) (by decide) _ _ ps ds) ?_;simp only [F49,seval];refine ao 51 15 1 (by rfl) (by rfl) (by rfl) (by decide) (by show (4:Nat)≠0;decide) (by show (2:Nat)≠0;decide) rfl ?_;simp only [F49,seval];refine aE (tbl 103 38 (ps.set gi (⟨q.1.cash,q.1.claims,(q.1.agrs++[[[⟨(ci:Int)+by9.tmod 3,decide (by9.tmod 2=0),enc (by9:Rat)⟩]]])⟩,q.2))) [5,6,14,15,16,17,18] [49,15] (bR (fun a r hr=>?tq) _) ?_;case tq=>
   by_cases hai:a=gi
   ·rw [hai] at hr ⊢;rw [List.getElem?_set_self hgl] at hr;obtain rfl:=Option.some.inj hr;simp only [aj];repeat rw [if_neg (by omega)]
    exact bk (by decide) hq
   rw [List.getElem?_set_ne (fun h=>hai h.symm)] at hr;simp only [aj];repeat rw [if_neg (by omega)]
   exact bk (by decide) hr
  simp only [F49,seval];refine be (bZ 103 38 36 (by decide) 49 [(15,_)] (by simp) (by decide) _ _ (ps.set gi (⟨q.1.cash,q.1.claims,(q.1.agrs++[[[⟨(ci:Int)+by9.tmod 3,decide (by9.tmod 2=0),enc (by9:Rat)⟩]]])⟩,q.2))) ?_;rw [bP];simp only [F49,seval];refine ao 49 15 0 (by rfl) (by rfl) (by rfl) (by decide) (by show (5:Nat)≠0;decide) (by show (2:Nat)≠0;decide) rfl ?_;simp only [F49,seval];have hok9:b5 ⟨(ps.set gi (⟨q.1.cash,q.1.claims,(q.1.agrs++[[[⟨(ci:Int)+by9.tmod 3,decide (by9.tmod 2=0),enc (by9:Rat)⟩]]])⟩,q.2)).map (·.1),ds.map (·.1)⟩:=by rw [List.map_set];exact cN hok0 gi _ (dV heo _ hrok)
  have hC:=b0 ⟨(ps.set gi (⟨q.1.cash,q.1.claims,(q.1.agrs++[[[⟨(ci:Int)+by9.tmod 3,decide (by9.tmod 2=0),enc (by9:Rat)⟩]]])⟩,q.2)).map (·.1),ds.map (·.1)⟩ (bJ hok9);have hD:=b6 ⟨(ps.set gi (⟨q.1.cash,q.1.claims,(q.1.agrs++[[[⟨(ci:Int)+by9.tmod 3,decide (by9.tmod 2=0),enc (by9:Rat)⟩]]])⟩,q.2)).map (·.1),ds.map (·.1)⟩ hok9;rw [←ez] at hD;simp only [au,List.length_map,List.length_set,List.length_append,List.length_cons,List.length_nil,Nat.zero_add] at hC hD;refine awD (scq [0,3,5,9,6,10,13,15,17] .nil) [0,0,393,393,393,393,393,0,0] ?_;simp only [F49,seval,w0,w1x,w2x,w3x,w4x,w5x,BEq.rfl,au,ab ak,ab ai];repeat refine ob ?_
  refine ⟨_,bK,(by first|rfl|simp [bu,aI,av,az,A1.cells,au,ab ak,ab ai]),?_⟩;try simp only [aq,F49,seval,w0,w1x,w2x,w3x,w4x,w5x,BEq.rfl,au,ab ak,ab ai]
  repeat refine ob ?_
  refine ⟨_,hC,(by first|rfl|simp [bu,aI,av,az,A1.cells,au,ab ak,ab ai]),?_⟩;try simp only [aq,F49,seval,w0,w1x,w2x,w3x,w4x,w5x,BEq.rfl,au,ab ak,ab ai]
  repeat refine ob ?_
  refine ⟨_,hD,(by first|rfl|simp [bu,aI,av,az,A1.cells,au,ab ak,ab ai]),?_⟩;try simp only [aq,F49,seval,w0,w1x,w2x,w3x,w4x,w5x,BEq.rfl,au,ab ak,ab ai]
  repeat refine ob ?_
  refine awX ?_;(first|(simp only [F49,seval,w0,w1x,w2x,w3x,w4x,w5x];done)|(simp only [F49,seval];first|(simp [w0,w1x,w2x,w3x,w4x,w5x];done)))
 repeat refine ob ?_
 repeat refine ob ?_
 refine ⟨_,hWh,(by first|rfl|simp [bu,aI,av,az,A1.cells]),?_⟩;try simp only [aq,F49,seval,w0,w1x,w2x,w3x,w4x,w5x,(id SD),hx4,hfl,cS]
 repeat refine ob ?_
 refine ⟨?_,?_⟩
 ·repeat refine ob ?_
  have hs1:∀x,spl (bQ (some (gi,t)) ps 0) (gi*5+4) [x]=(bQ (some (gi,t)) ps 0).set (gi*5+4) x:=fun x=>bY _ _ _ (by rw [bL];omega)
  have hfa:=aS dG q.1.agrs;rw [Nat.mul_one] at hfa;simp only [F49,seval,hs1,hag77];refine ao 71 72 0 (by rfl) (by rfl) (by rfl) (by decide) (by show (5:Nat)≠0;decide) (by show (1:Nat)≠0;decide) rfl ?_;simp only [F49,seval];refine ao 72 75 q.1.agrs.length (by rfl) (by rfl) (by show (ar aU q.1.agrs++[_])[_]? =_;rw [List.getElem?_append_right (by omega),hfa,Nat.sub_self];rfl) (by decide) (by show (1:Nat)≠0;decide) (by show (1:Nat)≠0;decide) rfl ?_;have hst9:∀x y:C,(ar aU q.1.agrs++[x]).set q.1.agrs.length y=ar aU q.1.agrs++[y]:=fun x y=>by rw [List.set_append_right _ _ (by omega),hfa,Nat.sub_self];rfl
  have hap9:ar aU q.1.agrs++[.sh 1 1 [.sh 5 1 [.lit (.int .i64 ((ci:Int)+by9.tmod 3)),.lit (.bool (decide (by9.tmod 2=0))),.lit (.bool (enc (by9:Rat)).neg),.lit (.string (enc (by9:Rat)).num),.lit (.string (enc (by9:Rat)).den)]]]=ar aU (q.1.agrs++[[[⟨(ci:Int)+by9.tmod 3,decide (by9.tmod 2=0),enc (by9:Rat)⟩]]]):=by rw [aV];rfl
  simp only [F49,seval,hst9,hap9];refine ao 75 49 (gi*5+4) (by rfl) (by rfl) (by show (List.set _ _ _)[_]? =_;exact List.getElem?_set_self (by rw [bL];omega)) (by decide) (by show (1:Nat)≠0;decide) (by show (5:Nat)≠0;decide) rfl ?_;have hpb9:=fu gi t ps q (q.1.agrs++[[[⟨(ci:Int)+by9.tmod 3,decide (by9.tmod 2=0),enc (by9:Rat)⟩]]]) hq;have hln9:∀x:cw,(q.1.agrs++[x]).length=q.1.agrs.length+1:=fun x=>by simp
  rw [hln9] at hpb9;simp only [F49,seval,List.set_set,hpb9,bq];refine aE (cF 38 44 ps ds) [5,6,14,15,16,17,18] [51,15,49] (by intro y B h;right;rcases aZ h with ⟨q,r,rfl,h2,h3⟩|⟨q,r,rfl,h2,h3⟩<;>(try simp only [aj])<;>(repeat rw [if_neg (by omega)])<;>exact h) ?_;simp only [F49,seval];refine be (b7 38 44 42 51 [(15,_),(49,_)] (by simp) (by decide) _ _ ps ds) ?_;simp only [F49,seval];refine ao 51 15 1 (by rfl) (by rfl) (by rfl) (by decide) (by show (4:Nat)≠0;decide) (by show (2:Nat)≠0;decide) rfl ?_;simp only [F49,seval];refine aE (tbl 103 38 (ps.set gi (⟨q.1.cash,q.1.claims,(q.1.agrs++[[[⟨(ci:Int)+by9.tmod 3,decide (by9.tmod 2=0),enc (by9:Rat)⟩]]])⟩,q.2))) [5,6,14,15,16,17,18] [49,15] (bR (fun a r hr=>?tq) _) ?_;case tq=>
   by_cases hai:a=gi
   ·rw [hai] at hr ⊢;rw [List.getElem?_set_self hgl] at hr;obtain rfl:=Option.some.inj hr;simp only [aj];repeat rw [if_neg (by omega)]
    exact bk (by decide) hq
   rw [List.getElem?_set_ne (fun h=>hai h.symm)] at hr;simp only [aj];repeat rw [if_neg (by omega)]
   exact bk (by decide) hr
  simp only [F49,seval];refine be (bZ 103 38 36 (by decide) 49 [(15,_)] (by simp) (by decide) _ _ (ps.set gi (⟨q.1.cash,q.1.claims,(q.1.agrs++[[[⟨(ci:Int)+by9.tmod 3,decide (by9.tmod 2=0),enc (by9:Rat)⟩]]])⟩,q.2))) ?_;rw [bP];simp only [F49,seval];refine ao 49 15 0 (by rfl) (by rfl) (by rfl) (by decide) (by show (5:Nat)≠0;decide) (by show (2:Nat)≠0;decide) rfl ?_;simp only [F49,seval];have hok9:b5 ⟨(ps.set gi (⟨q.1.cash,q.1.claims,(q.1.agrs++[[[⟨(ci:Int)+by9.tmod 3,decide (by9.tmod 2=0),enc (by9:Rat)⟩]]])⟩,q.2)).map (·.1),ds.map (·.1)⟩:=by rw [List.map_set];exact cN hok0 gi _ (dV heo _ hrok)
  have hC:=b0 ⟨(ps.set gi (⟨q.1.cash,q.1.claims,(q.1.agrs++[[[⟨(ci:Int)+by9.tmod 3,decide (by9.tmod 2=0),enc (by9:Rat)⟩]]])⟩,q.2)).map (·.1),ds.map (·.1)⟩ (bJ hok9);have hD:=b6 ⟨(ps.set gi (⟨q.1.cash,q.1.claims,(q.1.agrs++[[[⟨(ci:Int)+by9.tmod 3,decide (by9.tmod 2=0),enc (by9:Rat)⟩]]])⟩,q.2)).map (·.1),ds.map (·.1)⟩ hok9;rw [←ez] at hD;simp only [au,List.length_map,List.length_set,List.length_append,List.length_cons,List.length_nil,Nat.zero_add] at hC hD;refine awD (scq [0,3,5,9,6,10,13,15,17] .nil) [0,0,393,393,393,393,393,0,0] ?_;simp only [F49,seval,w0,w1x,w2x,w3x,w4x,w5x,BEq.rfl,au,ab ak,ab ai];repeat refine ob ?_
  refine ⟨_,bK,(by first|rfl|simp [bu,aI,av,az,A1.cells,au,ab ak,ab ai]),?_⟩;try simp only [aq,F49,seval,w0,w1x,w2x,w3x,w4x,w5x,BEq.rfl,au,ab ak,ab ai]
  repeat refine ob ?_
  refine ⟨_,hC,(by first|rfl|simp [bu,aI,av,az,A1.cells,au,ab ak,ab ai]),?_⟩;try simp only [aq,F49,seval,w0,w1x,w2x,w3x,w4x,w5x,BEq.rfl,au,ab ak,ab ai]
  repeat refine ob ?_
  refine ⟨_,hD,(by first|rfl|simp [bu,aI,av,az,A1.cells,au,ab ak,ab ai]),?_⟩;try simp only [aq,F49,seval,w0,w1x,w2x,w3x,w4x,w5x,BEq.rfl,au,ab ak,ab ai]
  repeat refine ob ?_
  refine awX ?_;(first|(simp only [F49,seval,w0,w1x,w2x,w3x,w4x,w5x];done)|(simp only [F49,seval];first|(simp [w0,w1x,w2x,w3x,w4x,w5x];done)))
 repeat refine ob ?_
 refine ⟨?_,?_⟩
 ·repeat refine ob ?_
  have hs1:∀x,spl (bQ (some (gi,t)) ps 0) (gi*5+4) [x]=(bQ (some (gi,t)) ps 0).set (gi*5+4) x:=fun x=>bY _ _ _ (by rw [bL];omega)
  have hfa:=aS dG q.1.agrs;rw [Nat.mul_one] at hfa;simp only [F49,seval,hs1,hag77];refine ao 71 72 0 (by rfl) (by rfl) (by rfl) (by decide) (by show (5:Nat)≠0;decide) (by show (1:Nat)≠0;decide) rfl ?_;simp only [F49,seval];refine ao 72 75 q.1.agrs.length (by rfl) (by rfl) (by show (ar aU q.1.agrs++[_])[_]? =_;rw [List.getElem?_append_right (by omega),hfa,Nat.sub_self];rfl) (by decide) (by show (1:Nat)≠0;decide) (by show (1:Nat)≠0;decide) rfl ?_;have hst9:∀x y:C,(ar aU q.1.agrs++[x]).set q.1.agrs.length y=ar aU q.1.agrs++[y]:=fun x y=>by rw [List.set_append_right _ _ (by omega),hfa,Nat.sub_self];rfl
  have hap9:ar aU q.1.agrs++[.sh 1 1 [.sh 5 1 [.lit (.int .i64 ((ci:Int)+by9.tmod 3)),.lit (.bool (decide (by9.tmod 2=0))),.lit (.bool (enc (by9:Rat)).neg),.lit (.string (enc (by9:Rat)).num),.lit (.string (enc (by9:Rat)).den)]]]=ar aU (q.1.agrs++[[[⟨(ci:Int)+by9.tmod 3,decide (by9.tmod 2=0),enc (by9:Rat)⟩]]]):=by rw [aV];rfl
  simp only [F49,seval,hst9,hap9];refine ao 75 49 (gi*5+4) (by rfl) (by rfl) (by show (List.set _ _ _)[_]? =_;exact List.getElem?_set_self (by rw [bL];omega)) (by decide) (by show (1:Nat)≠0;decide) (by show (5:Nat)≠0;decide) rfl ?_;have hpb9:=fu gi t ps q (q.1.agrs++[[[⟨(ci:Int)+by9.tmod 3,decide (by9.tmod 2=0),enc (by9:Rat)⟩]]]) hq;have hln9:∀x:cw,(q.1.agrs++[x]).length=q.1.agrs.length+1:=fun x=>by simp
  rw [hln9] at hpb9;simp only [F49,seval,List.set_set,hpb9,bq];refine aE (cF 38 44 ps ds) [5,6,14,15,16,17,18] [51,15,49] (by intro y B h;right;rcases aZ h with ⟨q,r,rfl,h2,h3⟩|⟨q,r,rfl,h2,h3⟩<;>(try simp only [aj])<;>(repeat rw [if_neg (by omega)])<;>exact h) ?_;simp only [F49,seval];refine be (b7 38 44 42 51 [(15,_),(49,_)] (by simp) (by decide) _ _ ps ds) ?_;simp only [F49,seval];refine ao 51 15 1 (by rfl) (by rfl) (by rfl) (by decide) (by show (4:Nat)≠0;decide) (by show (2:Nat)≠0;decide) rfl ?_;simp only [F49,seval];refine aE (tbl 103 38 (ps.set gi (⟨q.1.cash,q.1.claims,(q.1.agrs++[[[⟨(ci:Int)+by9.tmod 3,decide (by9.tmod 2=0),enc (by9:Rat)⟩]]])⟩,q.2))) [5,6,14,15,16,17,18] [49,15] (bR (fun a r hr=>?tq) _) ?_;case tq=>
   by_cases hai:a=gi
   ·rw [hai] at hr ⊢;rw [List.getElem?_set_self hgl] at hr;obtain rfl:=Option.some.inj hr;simp only [aj];repeat rw [if_neg (by omega)]
    exact bk (by decide) hq
   rw [List.getElem?_set_ne (fun h=>hai h.symm)] at hr;simp only [aj];repeat rw [if_neg (by omega)]
   exact bk (by decide) hr
  simp only [F49,seval];refine be (bZ 103 38 36 (by decide) 49 [(15,_)] (by simp) (by decide) _ _ (ps.set gi (⟨q.1.cash,q.1.claims,(q.1.agrs++[[[⟨(ci:Int)+by9.tmod 3,decide (by9.tmod 2=0),enc (by9:Rat)⟩]]])⟩,q.2))) ?_;rw [bP];simp only [F49,seval];refine ao 49 15 0 (by rfl) (by rfl) (by rfl) (by decide) (by show (5:Nat)≠0;decide) (by show (2:Nat)≠0;decide) rfl ?_;simp only [F49,seval];have hok9:b5 ⟨(ps.set gi (⟨q.1.cash,q.1.claims,(q.1.agrs++[[[⟨(ci:Int)+by9.tmod 3,decide (by9.tmod 2=0),enc (by9:Rat)⟩]]])⟩,q.2)).map (·.1),ds.map (·.1)⟩:=by rw [List.map_set];exact cN hok0 gi _ (dV heo _ hrok)
  have hC:=b0 ⟨(ps.set gi (⟨q.1.cash,q.1.claims,(q.1.agrs++[[[⟨(ci:Int)+by9.tmod 3,decide (by9.tmod 2=0),enc (by9:Rat)⟩]]])⟩,q.2)).map (·.1),ds.map (·.1)⟩ (bJ hok9);have hD:=b6 ⟨(ps.set gi (⟨q.1.cash,q.1.claims,(q.1.agrs++[[[⟨(ci:Int)+by9.tmod 3,decide (by9.tmod 2=0),enc (by9:Rat)⟩]]])⟩,q.2)).map (·.1),ds.map (·.1)⟩ hok9;rw [←ez] at hD;simp only [au,List.length_map,List.length_set,List.length_append,List.length_cons,List.length_nil,Nat.zero_add] at hC hD;refine awD (scq [0,3,5,9,6,10,13,15,17] .nil) [0,0,393,393,393,393,393,0,0] ?_;simp only [F49,seval,w0,w1x,w2x,w3x,w4x,w5x,BEq.rfl,au,ab ak,ab ai];repeat refine ob ?_
  refine ⟨_,bK,(by first|rfl|simp [bu,aI,av,az,A1.cells,au,ab ak,ab ai]),?_⟩;try simp only [aq,F49,seval,w0,w1x,w2x,w3x,w4x,w5x,BEq.rfl,au,ab ak,ab ai]
  repeat refine ob ?_
  refine ⟨_,hC,(by first|rfl|simp [bu,aI,av,az,A1.cells,au,ab ak,ab ai]),?_⟩;try simp only [aq,F49,seval,w0,w1x,w2x,w3x,w4x,w5x,BEq.rfl,au,ab ak,ab ai]
  repeat refine ob ?_
  refine ⟨_,hD,(by first|rfl|simp [bu,aI,av,az,A1.cells,au,ab ak,ab ai]),?_⟩;try simp only [aq,F49,seval,w0,w1x,w2x,w3x,w4x,w5x,BEq.rfl,au,ab ak,ab ai]
  repeat refine ob ?_
  refine awX ?_;(first|(simp only [F49,seval,w0,w1x,w2x,w3x,w4x,w5x];done)|(simp only [F49,seval];first|(simp [w0,w1x,w2x,w3x,w4x,w5x];done)))
 repeat refine ob ?_
 refine ⟨?_,?_⟩
 ·repeat refine ob ?_
  have hs1:∀x,spl (bQ (some (gi,t)) ps 0) (gi*5+4) [x]=(bQ (some (gi,t)) ps 0).set (gi*5+4) x:=fun x=>bY _ _ _ (by rw [bL];omega)
  have hfa:=aS dG q.1.agrs;rw [Nat.mul_one] at hfa;simp only [F49,seval,hs1,hag77];refine ao 71 72 0 (by rfl) (by rfl) (by rfl) (by decide) (by show (5:Nat)≠0;decide) (by show (1:Nat)≠0;decide) rfl ?_;simp only [F49,seval];refine ao 72 75 q.1.agrs.length (by rfl) (by rfl) (by show (ar aU q.1.agrs++[_])[_]? =_;rw [List.getElem?_append_right (by omega),hfa,Nat.sub_self];rfl) (by decide) (by show (1:Nat)≠0;decide) (by show (1:Nat)≠0;decide) rfl ?_;have hst9:∀x y:C,(ar aU q.1.agrs++[x]).set q.1.agrs.length y=ar aU q.1.agrs++[y]:=fun x y=>by rw [List.set_append_right _ _ (by omega),hfa,Nat.sub_self];rfl
  have hap9:ar aU q.1.agrs++[.sh 1 1 [.sh 5 1 [.lit (.int .i64 ((ci:Int)+by9.tmod 3)),.lit (.bool (decide (by9.tmod 2=0))),.lit (.bool (enc (by9:Rat)).neg),.lit (.string (enc (by9:Rat)).num),.lit (.string (enc (by9:Rat)).den)]]]=ar aU (q.1.agrs++[[[⟨(ci:Int)+by9.tmod 3,decide (by9.tmod 2=0),enc (by9:Rat)⟩]]]):=by rw [aV];rfl
  simp only [F49,seval,hst9,hap9];refine ao 75 49 (gi*5+4) (by rfl) (by rfl) (by show (List.set _ _ _)[_]? =_;exact List.getElem?_set_self (by rw [bL];omega)) (by decide) (by show (1:Nat)≠0;decide) (by show (5:Nat)≠0;decide) rfl ?_;have hpb9:=fu gi t ps q (q.1.agrs++[[[⟨(ci:Int)+by9.tmod 3,decide (by9.tmod 2=0),enc (by9:Rat)⟩]]]) hq;have hln9:∀x:cw,(q.1.agrs++[x]).length=q.1.agrs.length+1:=fun x=>by simp
  rw [hln9] at hpb9;simp only [F49,seval,List.set_set,hpb9,bq];refine aE (cF 38 44 ps ds) [5,6,14,15,16,17,18] [51,15,49] (by intro y B h;right;rcases aZ h with ⟨q,r,rfl,h2,h3⟩|⟨q,r,rfl,h2,h3⟩<;>(try simp only [aj])<;>(repeat rw [if_neg (by omega)])<;>exact h) ?_;simp only [F49,seval];refine be (b7 38 44 42 51 [(15,_),(49,_)] (by simp) (by decide) _ _ ps ds) ?_;simp only [F49,seval];refine ao 51 15 1 (by rfl) (by rfl) (by rfl) (by decide) (by show (4:Nat)≠0;decide) (by show (2:Nat)≠0;decide) rfl ?_;simp only [F49,seval];refine aE (tbl 103 38 (ps.set gi (⟨q.1.cash,q.1.claims,(q.1.agrs++[[[⟨(ci:Int)+by9.tmod 3,decide (by9.tmod 2=0),enc (by9:Rat)⟩]]])⟩,q.2))) [5,6,14,15,16,17,18] [49,15] (bR (fun a r hr=>?tq) _) ?_;case tq=>
   by_cases hai:a=gi
   ·rw [hai] at hr ⊢;rw [List.getElem?_set_self hgl] at hr;obtain rfl:=Option.some.inj hr;simp only [aj];repeat rw [if_neg (by omega)]
    exact bk (by decide) hq
   rw [List.getElem?_set_ne (fun h=>hai h.symm)] at hr;simp only [aj];repeat rw [if_neg (by omega)]
   exact bk (by decide) hr
  simp only [F49,seval];refine be (bZ 103 38 36 (by decide) 49 [(15,_)] (by simp) (by decide) _ _ (ps.set gi (⟨q.1.cash,q.1.claims,(q.1.agrs++[[[⟨(ci:Int)+by9.tmod 3,decide (by9.tmod 2=0),enc (by9:Rat)⟩]]])⟩,q.2))) ?_;rw [bP];simp only [F49,seval];refine ao 49 15 0 (by rfl) (by rfl) (by rfl) (by decide) (by show (5:Nat)≠0;decide) (by show (2:Nat)≠0;decide) rfl ?_;simp only [F49,seval];have hok9:b5 ⟨(ps.set gi (⟨q.1.cash,q.1.claims,(q.1.agrs++[[[⟨(ci:Int)+by9.tmod 3,decide (by9.tmod 2=0),enc (by9:Rat)⟩]]])⟩,q.2)).map (·.1),ds.map (·.1)⟩:=by rw [List.map_set];exact cN hok0 gi _ (dV heo _ hrok)
  have hC:=b0 ⟨(ps.set gi (⟨q.1.cash,q.1.claims,(q.1.agrs++[[[⟨(ci:Int)+by9.tmod 3,decide (by9.tmod 2=0),enc (by9:Rat)⟩]]])⟩,q.2)).map (·.1),ds.map (·.1)⟩ (bJ hok9);have hD:=b6 ⟨(ps.set gi (⟨q.1.cash,q.1.claims,(q.1.agrs++[[[⟨(ci:Int)+by9.tmod 3,decide (by9.tmod 2=0),enc (by9:Rat)⟩]]])⟩,q.2)).map (·.1),ds.map (·.1)⟩ hok9;rw [←ez] at hD;simp only [au,List.length_map,List.length_set,List.length_append,List.length_cons,List.length_nil,Nat.zero_add] at hC hD;refine awD (scq [0,3,5,9,6,10,13,15,17] .nil) [0,0,393,393,393,393,393,0,0] ?_;simp only [F49,seval,w0,w1x,w2x,w3x,w4x,w5x,BEq.rfl,au,ab ak,ab ai];repeat refine ob ?_
  refine ⟨_,bK,(by first|rfl|simp [bu,aI,av,az,A1.cells,au,ab ak,ab ai]),?_⟩;try simp only [aq,F49,seval,w0,w1x,w2x,w3x,w4x,w5x,BEq.rfl,au,ab ak,ab ai]
  repeat refine ob ?_
  refine ⟨_,hC,(by first|rfl|simp [bu,aI,av,az,A1.cells,au,ab ak,ab ai]),?_⟩;try simp only [aq,F49,seval,w0,w1x,w2x,w3x,w4x,w5x,BEq.rfl,au,ab ak,ab ai]
  repeat refine ob ?_
  refine ⟨_,hD,(by first|rfl|simp [bu,aI,av,az,A1.cells,au,ab ak,ab ai]),?_⟩;try simp only [aq,F49,seval,w0,w1x,w2x,w3x,w4x,w5x,BEq.rfl,au,ab ak,ab ai]
  repeat refine ob ?_
  refine awX ?_;(first|(simp only [F49,seval,w0,w1x,w2x,w3x,w4x,w5x];done)|(simp only [F49,seval];first|(simp [w0,w1x,w2x,w3x,w4x,w5x];done)))
 repeat refine ob ?_
 refine ⟨?_,?_⟩
 ·repeat refine ob ?_
  have hs1:∀x,spl (bQ (some (gi,t)) ps 0) (gi*5+4) [x]=(bQ (some (gi,t)) ps 0).set (gi*5+4) x:=fun x=>bY _ _ _ (by rw [bL];omega)
  have hfa:=aS dG q.1.agrs;rw [Nat.mul_one] at hfa;simp only [F49,seval,hs1,hag77];refine ao 71 72 0 (by rfl) (by rfl) (by rfl) (by decide) (by show (5:Nat)≠0;decide) (by show (1:Nat)≠0;decide) rfl ?_;simp only [F49,seval];refine ao 72 75 q.1.agrs.length (by rfl) (by rfl) (by show (ar aU q.1.agrs++[_])[_]? =_;rw [List.getElem?_append_right (by omega),hfa,Nat.sub_self];rfl) (by decide) (by show (1:Nat)≠0;decide) (by show (1:Nat)≠0;decide) rfl ?_;have hst9:∀x y:C,(ar aU q.1.agrs++[x]).set q.1.agrs.length y=ar aU q.1.agrs++[y]:=fun x y=>by rw [List.set_append_right _ _ (by omega),hfa,Nat.sub_self];rfl
  have hap9:ar aU q.1.agrs++[.sh 1 1 [.sh 5 1 [.lit (.int .i64 ((ci:Int)+by9.tmod 3)),.lit (.bool (decide (by9.tmod 2=0))),.lit (.bool (enc (by9:Rat)).neg),.lit (.string (enc (by9:Rat)).num),.lit (.string (enc (by9:Rat)).den)]]]=ar aU (q.1.agrs++[[[⟨(ci:Int)+by9.tmod 3,decide (by9.tmod 2=0),enc (by9:Rat)⟩]]]):=by rw [aV];rfl
  simp only [F49,seval,hst9,hap9];refine ao 75 49 (gi*5+4) (by rfl) (by rfl) (by show (List.set _ _ _)[_]? =_;exact List.getElem?_set_self (by rw [bL];omega)) (by decide) (by show (1:Nat)≠0;decide) (by show (5:Nat)≠0;decide) rfl ?_;have hpb9:=fu gi t ps q (q.1.agrs++[[[⟨(ci:Int)+by9.tmod 3,decide (by9.tmod 2=0),enc (by9:Rat)⟩]]]) hq;have hln9:∀x:cw,(q.1.agrs++[x]).length=q.1.agrs.length+1:=fun x=>by simp
  rw [hln9] at hpb9;simp only [F49,seval,List.set_set,hpb9,bq];refine aE (cF 38 44 ps ds) [5,6,14,15,16,17,18] [51,15,49] (by intro y B h;right;rcases aZ h with ⟨q,r,rfl,h2,h3⟩|⟨q,r,rfl,h2,h3⟩<;>(try simp only [aj])<;>(repeat rw [if_neg (by omega)])<;>exact h) ?_;simp only [F49,seval];refine be (b7 38 44 42 51 [(15,_),(49,_)] (by simp) (by decide) _ _ ps ds) ?_;simp only [F49,seval];refine ao 51 15 1 (by rfl) (by rfl) (by rfl) (by decide) (by show (4:Nat)≠0;decide) (by show (2:Nat)≠0;decide) rfl ?_;simp only [F49,seval];refine aE (tbl 103 38 (ps.set gi (⟨q.1.cash,q.1.claims,(q.1.agrs++[[[⟨(ci:Int)+by9.tmod 3,decide (by9.tmod 2=0),enc (by9:Rat)⟩]]])⟩,q.2))) [5,6,14,15,16,17,18] [49,15] (bR (fun a r hr=>?tq) _) ?_;case tq=>
   by_cases hai:a=gi
   ·rw [hai] at hr ⊢;rw [List.getElem?_set_self hgl] at hr;obtain rfl:=Option.some.inj hr;simp only [aj];repeat rw [if_neg (by omega)]
    exact bk (by decide) hq
   rw [List.getElem?_set_ne (fun h=>hai h.symm)] at hr;simp only [aj];repeat rw [if_neg (by omega)]
   exact bk (by decide) hr
  simp only [F49,seval];refine be (bZ 103 38 36 (by decide) 49 [(15,_)] (by simp) (by decide) _ _ (ps.set gi (⟨q.1.cash,q.1.claims,(q.1.agrs++[[[⟨(ci:Int)+by9.tmod 3,decide (by9.tmod 2=0),enc (by9:Rat)⟩]]])⟩,q.2))) ?_;rw [bP];simp only [F49,seval];refine ao 49 15 0 (by rfl) (by rfl) (by rfl) (by decide) (by show (5:Nat)≠0;decide) (by show (2:Nat)≠0;decide) rfl ?_;simp only [F49,seval];have hok9:b5 ⟨(ps.set gi (⟨q.1.cash,q.1.claims,(q.1.agrs++[[[⟨(ci:Int)+by9.tmod 3,decide (by9.tmod 2=0),enc (by9:Rat)⟩]]])⟩,q.2)).map (·.1),ds.map (·.1)⟩:=by rw [List.map_set];exact cN hok0 gi _ (dV heo _ hrok)
  have hC:=b0 ⟨(ps.set gi (⟨q.1.cash,q.1.claims,(q.1.agrs++[[[⟨(ci:Int)+by9.tmod 3,decide (by9.tmod 2=0),enc (by9:Rat)⟩]]])⟩,q.2)).map (·.1),ds.map (·.1)⟩ (bJ hok9);have hD:=b6 ⟨(ps.set gi (⟨q.1.cash,q.1.claims,(q.1.agrs++[[[⟨(ci:Int)+by9.tmod 3,decide (by9.tmod 2=0),enc (by9:Rat)⟩]]])⟩,q.2)).map (·.1),ds.map (·.1)⟩ hok9;rw [←ez] at hD;simp only [au,List.length_map,List.length_set,List.length_append,List.length_cons,List.length_nil,Nat.zero_add] at hC hD;refine awD (scq [0,3,5,9,6,10,13,15,17] .nil) [0,0,393,393,393,393,393,0,0] ?_;simp only [F49,seval,w0,w1x,w2x,w3x,w4x,w5x,BEq.rfl,au,ab ak,ab ai];repeat refine ob ?_
  refine ⟨_,bK,(by first|rfl|simp [bu,aI,av,az,A1.cells,au,ab ak,ab ai]),?_⟩;try simp only [aq,F49,seval,w0,w1x,w2x,w3x,w4x,w5x,BEq.rfl,au,ab ak,ab ai]
  repeat refine ob ?_
  refine ⟨_,hC,(by first|rfl|simp [bu,aI,av,az,A1.cells,au,ab ak,ab ai]),?_⟩;try simp only [aq,F49,seval,w0,w1x,w2x,w3x,w4x,w5x,BEq.rfl,au,ab ak,ab ai]
  repeat refine ob ?_
  refine ⟨_,hD,(by first|rfl|simp [bu,aI,av,az,A1.cells,au,ab ak,ab ai]),?_⟩;try simp only [aq,F49,seval,w0,w1x,w2x,w3x,w4x,w5x,BEq.rfl,au,ab ak,ab ai]
  repeat refine ob ?_
  refine awX ?_;(first|(simp only [F49,seval,w0,w1x,w2x,w3x,w4x,w5x];done)|(simp only [F49,seval];first|(simp [w0,w1x,w2x,w3x,w4x,w5x];done)))
 repeat refine ob ?_
 have hs1:∀x,spl (bQ (some (gi,t)) ps 0) (gi*5+4) [x]=(bQ (some (gi,t)) ps 0).set (gi*5+4) x:=fun x=>bY _ _ _ (by rw [bL];omega)
 have hfa:=aS dG q.1.agrs;rw [Nat.mul_one] at hfa;simp only [F49,seval,hs1,hag77];refine ao 71 72 0 (by rfl) (by rfl) (by rfl) (by decide) (by show (5:Nat)≠0;decide) (by show (1:Nat)≠0;decide) rfl ?_;simp only [F49,seval];refine ao 72 75 q.1.agrs.length (by rfl) (by rfl) (by show (ar aU q.1.agrs++[_])[_]? =_;rw [List.getElem?_append_right (by omega),hfa,Nat.sub_self];rfl) (by decide) (by show (1:Nat)≠0;decide) (by show (1:Nat)≠0;decide) rfl ?_;have hst9:∀x y:C,(ar aU q.1.agrs++[x]).set q.1.agrs.length y=ar aU q.1.agrs++[y]:=fun x y=>by rw [List.set_append_right _ _ (by omega),hfa,Nat.sub_self];rfl
 have hap9:ar aU q.1.agrs++[.sh 1 1 [.sh 5 1 [.lit (.int .i64 ((ci:Int)+by9.tmod 3)),.lit (.bool (decide (by9.tmod 2=0))),.lit (.bool (enc (by9:Rat)).neg),.lit (.string (enc (by9:Rat)).num),.lit (.string (enc (by9:Rat)).den)]]]=ar aU (q.1.agrs++[[[⟨(ci:Int)+by9.tmod 3,decide (by9.tmod 2=0),enc (by9:Rat)⟩]]]):=by rw [aV];rfl
 simp only [F49,seval,hst9,hap9];refine ao 75 49 (gi*5+4) (by rfl) (by rfl) (by show (List.set _ _ _)[_]? =_;exact List.getElem?_set_self (by rw [bL];omega)) (by decide) (by show (1:Nat)≠0;decide) (by show (5:Nat)≠0;decide) rfl ?_;have hpb9:=fu gi t ps q (q.1.agrs++[[[⟨(ci:Int)+by9.tmod 3,decide (by9.tmod 2=0),enc (by9:Rat)⟩]]]) hq;have hln9:∀x:cw,(q.1.agrs++[x]).length=q.1.agrs.length+1:=fun x=>by simp
 rw [hln9] at hpb9;simp only [F49,seval,List.set_set,hpb9,bq];refine aE (cF 38 44 ps ds) [5,6,14,15,16,17,18] [51,15,49] (by intro y B h;right;rcases aZ h with ⟨q,r,rfl,h2,h3⟩|⟨q,r,rfl,h2,h3⟩<;>(try simp only [aj])<;>(repeat rw [if_neg (by omega)])<;>exact h) ?_;simp only [F49,seval];refine be (b7 38 44 42 51 [(15,_),(49,_)] (by simp) (by decide) _ _ ps ds) ?_;simp only [F49,seval];refine ao 51 15 1 (by rfl) (by rfl) (by rfl) (by decide) (by show (4:Nat)≠0;decide) (by show (2:Nat)≠0;decide) rfl ?_;simp only [F49,seval];refine aE (tbl 103 38 (ps.set gi (⟨q.1.cash,q.1.claims,(q.1.agrs++[[[⟨(ci:Int)+by9.tmod 3,decide (by9.tmod 2=0),enc (by9:Rat)⟩]]])⟩,q.2))) [5,6,14,15,16,17,18] [49,15] (bR (fun a r hr=>?tq) _) ?_;case tq=>
  by_cases hai:a=gi
  ·rw [hai] at hr ⊢;rw [List.getElem?_set_self hgl] at hr;obtain rfl:=Option.some.inj hr;simp only [aj];repeat rw [if_neg (by omega)]
   exact bk (by decide) hq
  rw [List.getElem?_set_ne (fun h=>hai h.symm)] at hr;simp only [aj];repeat rw [if_neg (by omega)]
  exact bk (by decide) hr
 simp only [F49,seval];refine be (bZ 103 38 36 (by decide) 49 [(15,_)] (by simp) (by decide) _ _ (ps.set gi (⟨q.1.cash,q.1.claims,(q.1.agrs++[[[⟨(ci:Int)+by9.tmod 3,decide (by9.tmod 2=0),enc (by9:Rat)⟩]]])⟩,q.2))) ?_;rw [bP];simp only [F49,seval];refine ao 49 15 0 (by rfl) (by rfl) (by rfl) (by decide) (by show (5:Nat)≠0;decide) (by show (2:Nat)≠0;decide) rfl ?_;simp only [F49,seval];have hok9:b5 ⟨(ps.set gi (⟨q.1.cash,q.1.claims,(q.1.agrs++[[[⟨(ci:Int)+by9.tmod 3,decide (by9.tmod 2=0),enc (by9:Rat)⟩]]])⟩,q.2)).map (·.1),ds.map (·.1)⟩:=by rw [List.map_set];exact cN hok0 gi _ (dV heo _ hrok)
 have hC:=b0 ⟨(ps.set gi (⟨q.1.cash,q.1.claims,(q.1.agrs++[[[⟨(ci:Int)+by9.tmod 3,decide (by9.tmod 2=0),enc (by9:Rat)⟩]]])⟩,q.2)).map (·.1),ds.map (·.1)⟩ (bJ hok9);have hD:=b6 ⟨(ps.set gi (⟨q.1.cash,q.1.claims,(q.1.agrs++[[[⟨(ci:Int)+by9.tmod 3,decide (by9.tmod 2=0),enc (by9:Rat)⟩]]])⟩,q.2)).map (·.1),ds.map (·.1)⟩ hok9;rw [←ez] at hD;simp only [au,List.length_map,List.length_set,List.length_append,List.length_cons,List.length_nil,Nat.zero_add] at hC hD;refine awD (scq [0,3,5,9,6,10,13,15,17] .nil) [0,0,393,393,393,393,393,0,0] ?_;simp only [F49,seval,w0,w1x,w2x,w3x,w4x,w5x,BEq.rfl,au,ab ak,ab ai];repeat refine ob ?_
 refine ⟨_,bK,(by first|rfl|simp [bu,aI,av,az,A1.cells,au,ab ak,ab ai]),?_⟩;try simp only [aq,F49,seval,w0,w1x,w2x,w3x,w4x,w5x,BEq.rfl,au,ab ak,ab ai]
 repeat refine ob ?_
 refine ⟨_,hC,(by first|rfl|simp [bu,aI,av,az,A1.cells,au,ab ak,ab ai]),?_⟩;try simp only [aq,F49,seval,w0,w1x,w2x,w3x,w4x,w5x,BEq.rfl,au,ab ak,ab ai]
 repeat refine ob ?_
 refine ⟨_,hD,(by first|rfl|simp [bu,aI,av,az,A1.cells,au,ab ak,ab ai]),?_⟩;try simp only [aq,F49,seval,w0,w1x,w2x,w3x,w4x,w5x,BEq.rfl,au,ab ak,ab ai]
 repeat refine ob ?_
 refine awX ?_;(first|(simp only [F49,seval,w0,w1x,w2x,w3x,w4x,w5x];done)|(simp only [F49,seval];first|(simp [w0,w1x,w2x,w3x,w4x,w5x];done)))
def cI8 (n:Int):List C:=[.lit (.int .i8 n)]
theorem tW:fD prog 24 (rC cI8 (fun n=> -128<=n/\n<=127)):=by
 intro H enc W fuel cs x h;obtain ⟨n,rfl,_,hw⟩:=DataW.trod_int underlying24 h;have: -128<=n/\n<=127:=by simpa [Lit.wf,IntKind.min,IntKind.max,IntKind.signed,IntKind.bits] using hw
 exact ⟨n,⟨⟨rfl,rfl⟩,trivial⟩,this⟩
theorem wz (v0 v1 v2 v3 v4 v5 v6:Value) (n:Nat) (list:List N4) (pools debts:List N3) (wh aa:Nat) (by9:Int) (W:World) (o0:rC (fun n:Nat=>[.lit (.int .u8 n)]) (·<256) W (LT W.heap.size) [v0] n) (o1:rC (cSl 4 cN4) (nO xK) W (LT W.heap.size) [v1] list) (o2:rC (cSl 3 cN3) (nO tS) W (LT W.heap.size) [v2] pools) (o3:rC (cSl 3 cN3) (nO tS) W (LT W.heap.size) [v3] debts) (o4:rC (fun n:Nat=>[.lit (.int .u8 n)]) (·<256) W (LT W.heap.size) [v4] wh) (o5:rC (fun n:Nat=>[.lit (.int .u8 n)]) (·<256) W (LT W.heap.size) [v5] aa) (o6:rC cI8 (fun n=> -128<=n/\n<=127) W (LT W.heap.size) [v6] by9):
  Calls prog 3 #[v0,v1,v2,v3,v4,v5,v6] W fun e w'=>e= .returned (.bool true)/\Below W.heap.size W w':=by
 obtain ⟨h0,k0⟩:=fH o0 rfl;obtain ⟨h1,k1⟩:=fH o1 rfl;obtain ⟨h2,k2⟩:=fH o2 rfl;obtain ⟨h3,k3⟩:=fH o3 rfl;obtain ⟨h4,k4⟩:=fH o4 rfl;obtain ⟨h5,k5⟩:=fH o5 rfl;obtain ⟨h6,k6⟩:=fH o6 rfl;exact tR (vs:=[v0,v1,v2,v3,v4,v5,v6]) (zX n list pools debts wh aa by9 k0 k1 k2 k3 k4 k5 k6) ⟨h0,h1,h2,h3,h4,h5,h6,trivial⟩
end Go.Proofs.YtcgpghifhehlhaaGreatDoor
