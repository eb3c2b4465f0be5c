/- dispute.chooses, Apply, Decide; walked by the abstract machine. -/
import Derived.Test.YtokmkopihhnggaaGreatDoorCg1M
set_option linter.unusedVariables false
set_option maxHeartbeats 4000000
set_option maxRecDepth 100000
set_option linter.unusedSimpArgs false
set_option linter.defProp false
namespace Go.Proofs.YtokmkopihhnggaaGreatDoor
open Go Go.RowKit Go.Proofs.Tryz
theorem MI {g:GGrp}:∀{l:List GDisp} {T:List Leg},dkL g T l=0->∀d∈l,exB g d.est d.cl=true
 |[],_,_,d,h=>by cases h
 |x::l,T,h,d,hd=>by
  simp only [dkL] at h;split at h
  ·rename_i h0;rcases List.mem_cons.1 hd with rfl|hd
   ·unfold j2 at h0;split at h0
    ·assumption
    cases h0
   exact MI h d hd
  rename_i h0;exact absurd h h0
theorem Jw {gc:Int} {g:GGrp} {l:List GDisp} (h:dcS gc g l=0):l.length<=8/\∀d∈l,exB g d.est d.cl=true:=by
 unfold dcS at h;split at h
 ·split at h
  ·cases h
  split at h
  ·exact ⟨by omega,MI ‹_›⟩
  rename_i h0;exact absurd h h0
 rename_i h0;exact absurd h h0
theorem LG (es:List GEst):shp (es.map clE)=shp es:=by
 unfold shp;rw [List.map_map];refine List.map_congr_left fun e _=>?_
 show (e.claims.map clC).map (·.holder)=_;rw [List.map_map];rfl
def rsL (i:Nat):List GDisp->Nat->List GDisp->List GDisp
 |[],_,out=>out
 |d::l,k,out=>rsL i l (k+1) (if k=i then out else out++[d])
theorem MJ (i:Nat):∀(l:List GDisp) (k:Nat) (out:List GDisp),i<k->rsL i l k out=out++l
 |[],_,out,_=>by simp [rsL]
 |d::l,k,out,h=>by
  rw [rsL,if_neg (by omega),MJ i l (k+1) _ (by omega)];simp
theorem ML (i:Nat):∀(l:List GDisp) (k:Nat) (out:List GDisp),k<=i->rsL i l k out=out++l.eraseIdx (i-k)
 |[],_,out,_=>by simp [rsL]
 |d::l,k,out,h=>by
  rw [rsL];by_cases hk:k=i
  ·rw [if_pos hk,MJ i l (k+1) _ (by omega),show i-k=0 by omega];rfl
  rw [if_neg hk,ML i l (k+1) _ (by omega),show i-k=(i-(k+1))+1 by omega];simp
theorem MM (f:GDisp->GDisp):∀(l:List GDisp) (i:Nat),(l.map f).eraseIdx i=(l.eraseIdx i).map f
 |[],_=>rfl
 |_::_,0=>rfl
 |x::l,i+1=>by simp [MM f l i]
theorem MN (i:Nat) (l:List GDisp):rsL i (l.map nt) 0 []=(l.eraseIdx i).map nt:=by
 rw [ML i _ 0 [] (by omega),List.nil_append,Nat.sub_zero];exact MM nt l i
def zB (t:Nat):Blk:=⟨t,28,2,1,[.lit (.slice none 0 0),.lit (.slice none 0 0)]⟩
theorem lx {κ:Kx} {vs:List Value} (h:denVs κ vs [.lit (.slice none 0 0),.lit (.slice none 0 0)]):denVs κ vs [.sh 5 0 [],.sh 4 0 []]:=by
 obtain ⟨v1,vs1,rfl,d1,h⟩:=cv h;obtain ⟨v2,vs2,rfl,d2,h⟩:=cv h;exact ⟨m5 5 d1,m5 4 d2,h⟩
def cqD (l:List GDisp):Prop:=zg l/\∀d∈l,∀x∈d.opts,cqR x.amount
theorem KY {ps:List (GEst×Nat)} {q:GEst×Nat} {j k:Nat} {op:GOpt} {E:TypeId} {H H':Hp} (hq:ps[j]? =some q) (hH:∀y B,up H (1000*(j+1)+103) (some ⟨q.2,E,5,q.1.claims.length,aA b0 (q.1.claims.set k (opC (q.1.claims.getD k default) op))⟩) y=some B->H' y=some B)
  (hT:∀y B,tbl 103 E ps y=some B->H y=some B) (l:List Nat):∀y B,tbl 103 E (ps.set j (stC q.1 k op,q.2)) y=some B->fA l y=true∨H' y=some B:=fun y B h=>by
 right;obtain ⟨i,r,rfl,h2,rfl⟩:=hZ h;have hj:j<ps.length:=(List.getElem?_eq_some_iff.1 hq).1;refine hH _ _ ?_;by_cases hij:i=j
 ·subst hij;rw [List.getElem?_set_self hj] at h2;obtain rfl:=Option.some.inj h2;rw [bI];simp [stC]
 rw [List.getElem?_set_ne (fun e=>hij e.symm)] at h2;rw [cA _ _ (by omega)];exact hT _ _ (kK (by decide) h2)
theorem KZ {ps:List (GEst×Nat)} {q:GEst×Nat} {j k:Nat} {op:GOpt} (hq:ps[j]? =some q):eRw (gm 103) (ps.set j (stC q.1 k op,q.2)) 0=eRw (gm 103) ps 0:=Mv (gm 103) ps j q _ hq rfl rfl (by simp [gm,stC])
theorem MO {ps:List (GEst×Nat)} {q:GEst×Nat} {j k:Nat} {op:GOpt} (hq:ps[j]? =some q):(ps.set j (stC q.1 k op,q.2)).map (·.1)=stE (ps.map (·.1)) j k op:=by
 rw [List.map_set,Nj];congr 1;have:(ps.map (·.1)).getD j gr=q.1:=by rw [List.getD_eq_getElem?_getD,List.getElem?_map,hq];rfl
 rw [this]
theorem MP (l:List GOpt) (q:Nat) (h:q<l.length):((l.take q).map clO++l.drop q).set q (clO l[q])=(l.take (q+1)).map clO++l.drop (q+1):=by
 have hl:((l.take q).map clO).length=q:=by simp;omega
 rw [List.set_append_right _ _ (by omega),hl,Nat.sub_self,List.drop_eq_getElem_cons h,List.set_cons_zero,List.take_succ_eq_append_getElem h,List.map_append,List.append_assoc];rfl
theorem NI (l:List GOpt) (q:Nat) (h:q<l.length):((l.take q).map clO++l.drop q)[q]? =some l[q]:=by
 have hl:((l.take q).map clO).length=q:=by simp;omega
 rw [List.getElem?_append_right (by omega),hl,Nat.sub_self,List.drop_eq_getElem_cons h];rfl
def F86:=And.intro zS (And.intro Lf (And.intro Ew (And.intro CI (And.intro Hu (And.intro CJ (And.intro Hv (And.intro Hw (And.intro Gk (And.intro I2 (And.intro tw (And.intro tz (And.intro Gl (And.intro pr (And.intro Gq (And.intro A0 (Fl))))))))))))))))
theorem F87:type_of%F86:=F86
theorem L3 (g:GGrp) (l:List GDisp) (i op9:Int) (hg:cqG g) (hgo:Lo g) (hl:cqD l):aR prog 24 [.agg (am g),.one (.sh 3 l.length (aA de l)),.one (.lit (.int .i64 i)),.one (.lit (.int .i64 op9))] (.tup [.agg (am (dcG (dcS (kR g) g l) g l i op9).1),.one (.sh 3 (dcG (dcS (kR g) g l) g l i op9).2.1.length (aA de (dcG (dcS (kR g) g l) g l i op9).2.1)),.one (.lit (.int .i64 (dcG (dcS (kR g) g l) g l i op9).2.2))]):=by
 refine aP func24 rfl (by decide) (N:=103) rfl (by simp) (R:=[.cell 8 28,.tmp 9,.tmp 10]) rfl fun en k0=>?_
 refine awN ?_;simp only [F87,seval,am];repeat refine ob ?_
 have hK:=Ml g l hgo hl.1;refine awN ?_;simp only [F87,seval,am,ab b5,ab aN,ab eq];repeat refine ob ?_
 refine ⟨_,hK,(by first|rfl|simp [aU,aD,al,ax,A1.cells,am,ab b5,ab aN,ab eq]),?_⟩;try simp only [ak,F87,seval,am,ab b5,ab aN,ab eq]
 repeat refine ob ?_
 by_cases h0:dcS (kR g) g l=0
 ·refine awN ?_;simp only [F87,seval,am,h0];repeat refine ob ?_
  refine awF ?_;refine awK ?_;simp only [F87,seval];by_cases hi0:i<0
  ·have hdx:=Jw h0;have hl8:=hdx.1;have hn1:=hg.1;refine awR [] [0,0,0,54,54,54,54,0] ?_;simp only [F87,seval,am,h0,hi0];repeat refine ob ?_
   refine awT ?_;refine awN ?_;simp only [F87,seval,am,h0,hi0];repeat refine ob ?_
   refine cm (dz 8 [.sh 5 0 [],.sh 4 0 []] (by rfl) (by show (2:Nat)≠0;decide) (by rfl) (fun κ vs h=>lx h)) ?_;simp only [F87,seval];refine gS 9 98 109 3 (by decide) (by rfl) ?_;have hD:dcG (0) g l i op9=(⟨[],[]⟩,[],1):=by
    unfold dcG;rw [if_pos rfl,if_neg (by omega)]
   refine awX ?_;simp only [F87,seval];simp [hD,am,ve]
  by_cases hi1:(l.length:Int)<=i
  ·have hdx:=Jw h0;have hl8:=hdx.1;have hn1:=hg.1;refine awR [] [0,0,0,54,54,54,54,0] ?_;simp only [F87,seval,am,h0,hi0,hi1];repeat refine ob ?_
   refine awT ?_;refine awN ?_;simp only [F87,seval,am,h0,hi0,hi1];repeat refine ob ?_
   refine cm (dz 8 [.sh 5 0 [],.sh 4 0 []] (by rfl) (by show (2:Nat)≠0;decide) (by rfl) (fun κ vs h=>lx h)) ?_;simp only [F87,seval];refine gS 9 98 109 3 (by decide) (by rfl) ?_;have hD:dcG (0) g l i op9=(⟨[],[]⟩,[],1):=by
    unfold dcG;rw [if_pos rfl,if_neg (by omega)]
   refine awX ?_;simp only [F87,seval];simp [hD,am,ve]
  obtain ⟨j,rfl⟩:∃j:Nat,i=(j:Int):=⟨i.toNat,by omega⟩;have hjl:j<l.length:=by omega
  have hatl:=aO gB l j hjl;obtain ⟨d0,hd0⟩:∃d,l[j]=d:=⟨_,rfl⟩;rw [hd0] at hatl;have hgd:l.getD ((j:Nat):Int).toNat default=d0:=by rw [Int.toNat_natCast,List.getD_eq_getElem?_getD,List.getElem?_eq_getElem hjl,hd0];rfl
  have hdx:=Jw h0;have hl8:=hdx.1;have hn1:=hg.1;refine awR [] [0,0,0,54,54,54,54,0] ?_;simp only [F87,seval,am,h0,hi0,hi1];repeat refine ob ?_
  refine awF ?_;refine awK ?_;simp only [F87,seval];by_cases ho0:op9<0
  ·refine awR [] [0,0,0,72,72,72,72,72,72,72,72,0] ?_;simp only [F87,seval,am,h0,hi0,hi1,ho0,hatl,de];repeat refine ob ?_
   refine awT ?_;refine awN ?_;simp only [F87,seval,am,h0,hi0,hi1,ho0];repeat refine ob ?_
   refine cm (dz 8 [.sh 5 0 [],.sh 4 0 []] (by rfl) (by show (2:Nat)≠0;decide) (by rfl) (fun κ vs h=>lx h)) ?_;simp only [F87,seval];refine gS 9 98 109 3 (by decide) (by rfl) ?_;have hD:dcG (0) g l j op9=(⟨[],[]⟩,[],41):=by
    unfold dcG;rw [if_pos rfl,if_pos (by omega),hgd,if_neg (by omega)]
   refine awX ?_;simp only [F87,seval];simp [hD,am,ve]
  by_cases ho1:(d0.opts.length:Int)<=op9
  ·refine awR [] [0,0,0,72,72,72,72,72,72,72,72,0] ?_;simp only [F87,seval,am,h0,hi0,hi1,ho0,ho1,hatl,de];repeat refine ob ?_
   refine awT ?_;refine awN ?_;simp only [F87,seval,am,h0,hi0,hi1,ho0,ho1];repeat refine ob ?_
   refine cm (dz 8 [.sh 5 0 [],.sh 4 0 []] (by rfl) (by show (2:Nat)≠0;decide) (by rfl) (fun κ vs h=>lx h)) ?_;simp only [F87,seval];refine gS 9 98 109 3 (by decide) (by rfl) ?_;have hD:dcG (0) g l j op9=(⟨[],[]⟩,[],41):=by
    unfold dcG;rw [if_pos rfl,if_pos (by omega),hgd,if_neg (by omega)]
   refine awX ?_;simp only [F87,seval];simp [hD,am,ve]
  refine awR [] [0,0,0,72,72,72,72,72,72,72,72,0] ?_;simp only [F87,seval,am,h0,hi0,hi1,ho0,ho1,hatl,de];repeat refine ob ?_
  refine awF ?_;refine awK ?_;simp only [F87,seval];refine awR [47] [0,0,0,0] ?_;simp only [F87,seval,am,h0,hi0,hi1,ho0,ho1];repeat refine ob ?_
  refine ⟨_,KX g hg _ _ (fun y B hB=>?_),?_⟩
  ·simp only [aB] at hB;repeat (split at hB;· omega)
   cases hB
  rintro res H' nxA ⟨ps0,s0,t0,hps0,rfl,rfl⟩;simp only [F87,seval,(id SD)];repeat refine ob ?_
  have hdm:d0∈l:=hd0▸List.getElem_mem hjl;obtain ⟨x1,x2,x3,x4⟩:=MH (hdx.2 d0 hdm);obtain ⟨y,hxy⟩:∃y:Nat,op9=y:=⟨op9.toNat,by omega⟩;have hyl:y<d0.opts.length:=by omega
  have hato:=aO lf d0.opts y hyl;obtain ⟨op,hopx⟩:∃op,d0.opts[y]=op:=⟨_,rfl⟩;rw [hopx] at hato;have hop:cqR op.amount:=hl.2 d0 hdm op (hopx▸List.getElem_mem hyl);have hxo:d0.opts.getD op9.toNat default=op:=by rw [hxy,Int.toNat_natCast,List.getD_eq_getElem?_getD,List.getElem?_eq_getElem hyl,hopx];rfl
  have hpl:ps0.length=g.ests.length:=by have:=congrArg List.length hps0;simpa using this
  have hsh:shp (ps0.map (·.1))=shp g.ests:=by rw [hps0];exact LG _
  obtain ⟨q0,hq0⟩:∃q,ps0[d0.est.toNat]? =some q:=⟨_,List.getElem?_eq_getElem (by omega)⟩;have hqe:(ps0.map (·.1)).getD d0.est.toNat gr=q0.1:=by rw [List.getD_eq_getElem?_getD,List.getElem?_map,hq0];rfl
  have hqc:q0.1.claims.length=(g.ests.getD d0.est.toNat gr).claims.length:=by rw [←hqe];exact MG hsh _
  have hcb:=(hg.2.1 _ (show g.ests.getD d0.est.toNat gr∈g.ests by rw [Jo _ _ (show d0.est.toNat<g.ests.length by omega)];exact List.getElem_mem _)).2.1;simp only [jU] at hato;have hy9:op9=(y:Int):=hxy;repeat' first|apply awS|apply awB
  refine cb [62] (by kernel_rfl) (.cons 0 true (.cons 1 true (.cons 2 true (.cons 3 true (.cons 4 true (.cons 5 true (.cons 6 true (.cons 7 true (.cons 8 true (.cons 9 true (.cons 10 true (.cons 11 true (.cons 12 true (.cons 13 true (.cons 14 false .nil))))))))))))))) (by kernel_rfl) (gs:=[none,none,none,none,none,none,none,none,none,none,none,none,none,none,none]) (by kernel_rfl) (by simp only [zT,seval];rfl) (by decide) ?_;simp only [F87,seval,am,h0,hi0,hi1,ho0,ho1,hatl,de,hato,gp,jU,hy9,(id SD)];repeat refine ob ?_
  refine ⟨_,NW ps0 (g.debts.map clD) d0.est d0.cl op q0 g.ests.length s0 _ _ hpl.symm hn1 hop x1 hq0 x3 (by omega) (by omega) (by rfl) (fun i r hr=>?_) (fun y B hB=>?_),?_⟩
  ·simp only [aB];repeat rw [if_neg (by omega)]
   exact JK (by decide) hr
  ·simp only [aB] at hB;repeat (split at hB;· omega)
   rcases wN hB with ⟨a,r,rfl,_,_⟩|h
   ·right;omega
   simp only [aB] at h;repeat (split at h;· omega)
   cases h
  rintro res H' nx' ⟨rfl,hH9⟩;simp only [F87,seval,(id SD)];repeat refine ob ?_
  have h8:H' 8=some _:=hH9 8 _ (by simp only [aB];rw [if_neg (by omega)];rfl);have h12:H' 12=some _:=hH9 12 _ (by simp only [aB];rw [if_neg (by omega)];rfl);have h220:H' 220=some _:=hH9 220 _ (by simp only [aB];rw [if_neg (by omega)];rfl);refine eC (tbl 103 38 (ps0.set d0.est.toNat (stC q0.1 d0.cl.toNat op,q0.2))) [1,2,3,8,9,10,12] [8,12,220] (KY hq0 hH9 (fun y B hB=>?tt9) _) ?_;case tt9=>
   obtain ⟨a,r,rfl,_,_⟩:=hZ hB;simp only [aB];repeat rw [if_neg (by omega)]
   unfold orT;rw [hB]
  simp only [F87,seval,h8,h12,h220];have hrw:eRw (gm 103) ps0 0=eRw (gm 103) (ps0.set d0.est.toNat (stC q0.1 d0.cl.toNat op,q0.2)) 0:=(KZ hq0).symm;rw [hrw];have hap:(ps0.set d0.est.toNat (stC q0.1 d0.cl.toNat op,q0.2)).map (·.1)=stL (g.ests.map clE) d0 op9:=by rw [MO hq0,hps0];unfold stL;rw [hxo]
  have hpl1:(ps0.set d0.est.toNat (stC q0.1 d0.cl.toNat op,q0.2)).length=g.ests.length:=by rw [List.length_set];exact hpl
  generalize (ps0.set d0.est.toNat (stC q0.1 d0.cl.toNat op,q0.2))=ps at *
  refine awN ?_;simp only [F87,seval,am,h0,hi0,hi1,ho0,ho1];repeat refine ob ?_
  refine awN ?_;simp only [F87,seval,am,h0,hi0,hi1,ho0,ho1];repeat refine ob ?_
  refine gS 13 99 109 3 (by decide) (by rfl) ?_;refine eC (tbl 103 38 ps) [1,2,3,8,10,12,13,63,64,65] [8,12,220,99] (by intro y B h;obtain ⟨a,r,rfl,h2,h3⟩:=hZ h;right;simp only [aB];(repeat rw [if_neg (by omega)]);exact h) ?_;try simp only [ak,F87,seval,am,h0,hi0,hi1,ho0,ho1,a7,nt,de,List.length_append,List.length_cons,List.length_nil,List.length_map]
  repeat' first|apply awS|apply awB
  refine aM (fun n st=>∃i0 out sr nx,i0<=l.length/\n=l.length-i0/\rsL j (List.map nt (l.drop i0)) i0 out=rsL j (List.map nt l) 0 []/\out.length<=i0/\st=⟨mkT [(1,.val (.one (.sh 3 l.length (aA de l)))),(2,one (.int .i64 (j:Int))),(3,one (.int .i64 (y:Int))),(8,.val (.one (.ptr 8 1 0))),(10,one (.int .i64 0)),(12,.val (.one (.ptr 12 nxA 0))),(13,.val (.one (.own 99 sr out.length 3))),(63,.val (.one (.sh 3 l.length (aA de l)))),(64,one (.int .i64 l.length)),(65,one (.int .i64 i0))],bZ (tbl 103 38 ps) [(8,zB 1),(12,⟨nxA,28,2,1,[.own 220 s0 g.ests.length 5,.sh 4 g.debts.length (aA fu (g.debts.map clD))]⟩),(220,⟨s0,36,5,g.ests.length,eRw (gm 103) ps 0⟩),(99,⟨sr,109,3,out.length,aA de out⟩)],nx,0⟩) (l.length) ⟨0,[],_,_,by omega,by omega,by rfl,(by first|omega|assumption|rfl|simp|(simp;omega)),rfl⟩ ?_;rintro n0 st ⟨i0,out,sr,nx0,hk0,rfl,hL0,hV0_1,rfl⟩;by_cases hlt0:i0<l.length
  ·have hI0:(i0:Int)<(l.length:Int):=by omega
   have hat0:=aO gB l i0 hlt0;try rw [Nat.mul_one] at hat0
   rw [List.drop_eq_getElem_cons hlt0] at hL0;have hdm9:l[i0]∈l:=(List.getElem_mem hlt0);have hdo:=(hl.1.2 _ (List.getElem_mem hlt0)).1;generalize l[i0]=d at *
   simp only [List.map_cons,List.map_nil,rsL] at hL0;refine awN ?_;simp only [F87,seval,am,h0,hi0,hi1,ho0,ho1,hI0,hat0];repeat refine ob ?_
   refine awT ?_;refine awK ?_;simp only [F87,seval];refine awN ?_;simp only [F87,seval,am,h0,hi0,hi1,ho0,ho1,hI0,hat0,de];repeat refine ob ?_
   by_cases hkj:i0=j
   ·have yk:(((i0:Nat):Int)=(j:Int))=True:=eq_true (by omega);refine awN ?_;simp only [F87,seval,am,h0,hi0,hi1,ho0,ho1,hI0,hat0,yk];repeat refine ob ?_
    refine awT ?_;refine awQ ?_;simp only [F87,seval];refine awN ?_;simp only [F87,seval,am,h0,hi0,hi1,ho0,ho1,hI0,hat0,yk];repeat refine ob ?_
    repeat refine ob ?_
    refine ⟨_,fP (tbl 103 38 ps) [1,2,3,8,10,12,13,63,64,65] [8,12,220,99] (by intro y B h;obtain ⟨a,r,rfl,h2,h3⟩:=hZ h;right;simp only [aB];(repeat rw [if_neg (by omega)]);exact h),l.length-(i0+1),by omega,i0+1,(out),?a25_sr,?a25_nx,by omega,rfl,?i25_0,?i25_1,?st25⟩;case st25=>(simp only [F87,seval,a7,nt,de,List.length_append,List.length_cons,List.length_nil,List.length_map,am,h0,hi0,hi1,ho0,ho1,hI0,hat0,yk];first|rfl|(simp [a7,nt,de,List.length_append,List.length_cons,List.length_nil,List.length_map,h0,hi0,hi1,ho0,ho1,hI0,hat0,yk,Nat.add_mul];done))
    case i25_0=>(have hij9:i0=j:=(by omega);simpa [hij9] using hL0)
    all_goals (first|omega|assumption|(simp;omega)|(simp_all;done))
   have yk:(((i0:Nat):Int)=(j:Int))=False:=eq_false (by omega);refine awN ?_;simp only [F87,seval,am,h0,hi0,hi1,ho0,ho1,hI0,hat0,yk];repeat refine ob ?_
   refine awF ?_;refine awK ?_;simp only [F87,seval];refine awR [75] [0,0,0,0,0] ?_;simp only [F87,seval,am,h0,hi0,hi1,ho0,ho1,hI0,hat0,yk,de,ab ld];repeat refine ob ?_
   refine ⟨_,KW d.opts hdo _ _ (fun y B hB=>?_),?_⟩
   ·simp only [aB] at hB;repeat (split at hB;· omega)
    obtain ⟨a,r,rfl,_,_⟩:=hZ hB;right;omega
   rintro res H' nx' ⟨s1,rfl,rfl⟩;simp only [F87,seval,(id SD)];repeat refine ob ?_
   refine awN ?_;simp only [F87,seval,am,h0,hi0,hi1,ho0,ho1,hI0,hat0,yk];repeat refine ob ?_
   refine eC (tbl 103 38 ps) [1,2,3,8,10,12,13,63,64,65,14,15,78,79,80] [8,12,220,99,15,1007] (by intro y B h;obtain ⟨a,r,rfl,h2,h3⟩:=hZ h;right;simp only [aB];(repeat rw [if_neg (by omega)]);exact h) ?_;try simp only [ak,F87,seval,am,h0,hi0,hi1,ho0,ho1,hI0,hat0,yk]
   repeat' first|apply awS|apply awB
   refine aM (fun n st=>∃q1 X sc nx,q1<=d.opts.length/\n=d.opts.length-q1/\X=(d.opts.take q1).map clO++d.opts.drop q1/\X.length=d.opts.length/\st=⟨mkT [(1,.val (.one (.sh 3 l.length (aA de l)))),(2,one (.int .i64 (j:Int))),(3,one (.int .i64 (y:Int))),(8,.val (.one (.ptr 8 1 0))),(10,one (.int .i64 0)),(12,.val (.one (.ptr 12 nxA 0))),(13,.val (.one (.own 99 sr out.length 3))),(63,.val (.one (.sh 3 l.length (aA de l)))),(64,one (.int .i64 l.length)),(65,one (.int .i64 i0)),(14,one (.int .i64 i0)),(15,.val (.one (.ptr 15 (nx0+0) 0))),(78,.val (.one (.own 1007 sc d.opts.length 4))),(79,one (.int .i64 d.opts.length)),(80,one (.int .i64 q1))],bZ (tbl 103 38 ps) [(8,zB 1),(12,⟨nxA,28,2,1,[.own 220 s0 g.ests.length 5,.sh 4 g.debts.length (aA fu (g.debts.map clD))]⟩),(220,⟨s0,36,5,g.ests.length,eRw (gm 103) ps 0⟩),(99,⟨sr,109,3,out.length,aA de out⟩),(15,⟨nx0+0,109,3,1,[.lit (.int .i64 d.est),.lit (.int .i64 d.cl),.own 1007 sc d.opts.length 4]⟩),(1007,⟨sc,121,4,d.opts.length,aA jU X⟩)],nx,0⟩) (d.opts.length) ⟨0,d.opts,_,_,by omega,by omega,by simp,rfl,rfl⟩ ?_;rintro n1 st ⟨q1,X,sc,nx1,hq1,rfl,hX,hXl,rfl⟩;by_cases hlt1:(q1:Int)<(d.opts.length:Int)
   ·refine awN ?_;simp only [F87,seval,am,h0,hi0,hi1,ho0,ho1,hI0,hat0,yk,hlt1];repeat refine ob ?_
    refine awT ?_;refine awK ?_;simp only [F87,seval];refine awN ?_;simp only [F87,seval,am,h0,hi0,hi1,ho0,ho1,hI0,hat0,yk,hlt1];repeat refine ob ?_
    have hqo:q1<d.opts.length:=by omega
    have hqX:q1<X.length:=by omega
    obtain ⟨x,hxq⟩:∃x,d.opts[q1]=x:=⟨_,rfl⟩;have hXx:X[q1]=x:=by
     have h1:=NI d.opts q1 hqo;rw [←hX,List.getElem?_eq_getElem hqX,hxq] at h1;exact Option.some.inj h1
    have hatX:=aO lf X q1 hqX;rw [hXx] at hatX;have hox:cqR x.amount:=hl.2 d hdm9 x (hxq▸List.getElem_mem hqo);have hset9:=zl lf X q1 0 (ai (clR x.amount)) (clO x) hqX (by simp [ai]) (by rw [hXx];simp [jU,clO,ai,spl]);simp only [ai,Nat.add_zero] at hset9;have hfX:=bo lf X;refine awD (scT 0 9 (scq [18,21,23,24] .nil)) [0,0,0,0,0,0,0,0,0,0,0,0,0] ?_;simp only [F87,seval,am,h0,hi0,hi1,ho0,ho1,hI0,hat0,yk,hlt1,hatX,jU,ai,hset9,hfX,Nat.add_zero];repeat refine ob ?_
    refine ⟨_,(xC x.amount hox),(by first|rfl|simp [aU,aD,al,ax,A1.cells,am,ab b5,ab aN,ab eq]),?_⟩;try simp only [ak,F87,seval,am,h0,hi0,hi1,ho0,ho1,hI0,hat0,yk,hlt1,hatX,jU,ai,hset9,hfX,Nat.add_zero]
    repeat refine ob ?_
    refine awN ?_;simp only [F87,seval,am,h0,hi0,hi1,ho0,ho1,hI0,hat0,yk,hlt1];repeat refine ob ?_
    repeat refine ob ?_
    refine ⟨_,fP (tbl 103 38 ps) [1,2,3,8,10,12,13,63,64,65,14,15,78,79,80] [8,12,220,99,15,1007] (by intro y B h;obtain ⟨a,r,rfl,h2,h3⟩:=hZ h;right;simp only [aB];(repeat rw [if_neg (by omega)]);exact h),d.opts.length-(q1+1),by omega,q1+1,X.set q1 (clO x),?sc34,?nn34,by omega,rfl,?hx34,by rw [List.length_set];exact hXl,?st34⟩;case st34=>(simp only [F87,seval,hset9];first|rfl|(simp;done))
    case hx34=>rw [hX,←hxq];exact MP d.opts q1 hqo
   refine awN ?_;simp only [F87,seval,am,h0,hi0,hi1,ho0,ho1,hI0,hat0,yk,hlt1];repeat refine ob ?_
   refine awF ?_;refine awQ ?_;simp only [F87,seval];obtain rfl:q1=d.opts.length:=by omega
   rw [List.take_length,List.drop_length,List.append_nil] at hX;subst hX;refine dp 1007 15 2 (by rfl) (by rfl) (by rfl) (by decide) (by show (4:Nat)≠0;decide) (by show (3:Nat)≠0;decide) rfl ?_;simp only [F87,seval];refine awN ?_;simp only [F87,seval,am,h0,hi0,hi1,ho0,ho1,hI0,hat0,yk,hlt1];repeat refine ob ?_
   refine awN ?_;simp only [F87,seval,am,h0,hi0,hi1,ho0,ho1,hI0,hat0,yk,hlt1];repeat refine ob ?_
   repeat refine ob ?_
   refine ⟨_,fP (tbl 103 38 ps) [1,2,3,8,10,12,13,63,64,65] [8,12,220,99] (by intro y B h;obtain ⟨a,r,rfl,h2,h3⟩:=hZ h;right;simp only [aB];(repeat rw [if_neg (by omega)]);exact h),l.length-(i0+1),by omega,i0+1,(out++[nt d]),?a37_sr,?a37_nx,by omega,rfl,?i37_0,?i37_1,?st37⟩;case st37=>(simp only [F87,seval,a7,nt,de,List.length_append,List.length_cons,List.length_nil,List.length_map,am,h0,hi0,hi1,ho0,ho1,hI0,hat0,yk,hlt1];first|rfl|(simp [a7,nt,de,List.length_append,List.length_cons,List.length_nil,List.length_map,h0,hi0,hi1,ho0,ho1,hI0,hat0,yk,hlt1,Nat.add_mul];done))
   case i37_0=>(have hij9:¬i0=j:=(by omega);simpa [hij9] using hL0)
   all_goals (first|omega|assumption|(simp;omega)|(simp_all;done))
  obtain rfl:i0=l.length:=by omega
  have hI0:¬(l.length:Int)<(l.length:Int):=by omega
  rw [List.drop_length] at hL0;simp only [List.map_cons,List.map_nil,rsL] at hL0;refine awN ?_;simp only [F87,seval,am,h0,hi0,hi1,ho0,ho1,hI0];repeat refine ob ?_
  refine awF ?_;refine awQ ?_;simp only [F87,seval];refine gT (t:=13) (by rfl) (by rfl) (by decide) (by rfl) ?_;simp only [F87,seval];refine eC (tbl 103 38 ps) [8,10,12,13] [220,8,12] (by intro y B h;obtain ⟨a,r,rfl,h2,h3⟩:=hZ h;right;simp only [aB];(repeat rw [if_neg (by omega)]);exact h) ?_;simp only [F87,seval];refine cm (KS 103 38 36 (by decide) 220 [(8,_),(12,_)] (by simp) (by decide) g.ests.length _ ps) ?_;have hnl:(stL (g.ests.map clE) d0 op9).length=g.ests.length:=by rw [←hap,List.length_map];exact hpl1
  rw [JS,hap];simp only [F87,seval];refine dp 220 12 0 (by rfl) (by rfl) (by rfl) (by decide) (by show (5:Nat)≠0;decide) (by show (2:Nat)≠0;decide) rfl ?_;simp only [F87,seval];refine awN ?_;simp only [F87,seval,am,h0,hi0,hi1,ho0,ho1,hI0];repeat refine ob ?_
  have hD:dcG 0 g l j (y:Int)=(⟨stL (g.ests.map clE) d0 op9,g.debts.map clD⟩,(l.eraseIdx j).map nt,0):=by
   rw [←hy9];unfold dcG;rw [if_pos rfl,if_pos (by omega),hgd,if_pos (by omega)];try rfl
  have ho:out=(l.eraseIdx j).map nt:=by rw [hL0];exact MN j l
  refine awX ?_;simp only [F87,seval,ab b5,ab aN,ab eq];simp [hD,am,hnl,←ho]
 refine awN ?_;simp only [F87,seval,am,h0];repeat refine ob ?_
 refine awT ?_;refine awN ?_;simp only [F87,seval,am,h0];repeat refine ob ?_
 refine cm (dz 8 [.sh 5 0 [],.sh 4 0 []] (by rfl) (by show (2:Nat)≠0;decide) (by rfl) (fun κ vs h=>lx h)) ?_;simp only [F87,seval];refine gS 9 98 109 3 (by decide) (by rfl) ?_;have hD:dcG (dcS (kR g) g l) g l i op9=(⟨[],[]⟩,[],dcS (kR g) g l):=by
  unfold dcG;rw [if_neg h0]
 refine awX ?_;simp only [F87,seval];simp [hD,am,ve]
end Go.Proofs.YtokmkopihhnggaaGreatDoor
