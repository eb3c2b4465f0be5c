/- The reference's Apply and Decide; walked by the abstract machine. -/
import Derived.Test.YtokmkopihhnggaaGreatDoorCg2M
import Derived.Test.YtokmkopihhnggaaGreatDoorCg3M
import Derived.Test.YtokmkopihhnggaaGreatDoorDc2M
import Derived.Test.YtokmkopihhnggaaGreatDoorCs4M
set_option linter.unusedVariables false
set_option maxHeartbeats 4000000
set_option maxRecDepth 100000
set_option linter.unusedSimpArgs false
set_option linter.defProp false
namespace Go.Proofs.YtokmkopihhnggaaGreatDoor
open Go Go.RowKit Go.Proofs.Tryz
def F88:=And.intro zS (And.intro Ew (And.intro Hu (And.intro CJ (And.intro Hv (And.intro Hw (And.intro Hx (And.intro Gk (And.intro I2 (And.intro tz (And.intro pr (And.intro jz (And.intro Ie (And.intro CQ (And.intro A0 (Ex)))))))))))))))
theorem F89:type_of%F88:=F88
theorem K1 (d:GDisp) (hd:d.opts.length<=1000000/\∀x∈d.opts,cqR x.amount):aR prog 72 [.agg (de d)] (.val (.agg (de (nt d)))):=by
 have hd1:=hd.1;refine aP func72 rfl (by decide) (N:=35) rfl (by simp) (R:=[.cell 2 109]) rfl fun en k0=>?_
 refine awN ?_;simp only [F89,seval,de];repeat refine ob ?_
 refine awN ?_;simp only [F89,seval,de];repeat refine ob ?_
 refine awN ?_;simp only [F89,seval,de];repeat refine ob ?_
 refine lX 3 2 32 _ 121 4 (by decide) (by rfl) (by decide) (by simp) (by rfl) ?_;refine aQ [1,2,3,4] [1,2,3,32] ?_;try simp only [ak,F89,seval,de,a7,clO,jU,List.length_append,List.length_cons,List.length_nil]
 repeat' first|apply awS|apply awB
 refine aM (fun n st=>∃i0 oo so nx,i0<=d.opts.length/\n=d.opts.length-i0/\oo++List.map clO (d.opts.drop i0)=[]++List.map clO d.opts/\oo.length=i0/\st=⟨mkT [(1,.val (.one (.ptr 1 0 0))),(2,.val (.one (.ptr 2 1 0))),(3,.val (.one (.ptr 3 2 0))),(4,one (.int .i64 i0))],mkH [(1,⟨0,109,3,1,de d⟩),(2,⟨1,109,3,1,[.lit (.int .i64 0),.lit (.int .i64 0),.lit (.slice none 0 0)]⟩),(3,⟨2,109,3,1,[.lit (.int .i64 d.est),.lit (.int .i64 d.cl),.own 32 so oo.length 4]⟩),(32,⟨so,121,4,oo.length,aA jU oo⟩)],nx,0⟩) (d.opts.length) ⟨0,[],_,_,by omega,by omega,by rfl,(by first|omega|assumption|rfl|simp|(simp;omega)),rfl⟩ ?_;rintro n0 st ⟨i0,oo,so,nx0,hk0,rfl,hL0,hV0_1,rfl⟩;by_cases hlt0:i0<d.opts.length
 ·have hI0:(i0:Int)<(d.opts.length:Int):=by omega
  have hat0:=aO lf d.opts i0 hlt0;try rw [Nat.mul_one] at hat0
  rw [List.drop_eq_getElem_cons hlt0] at hL0;have hox:=hd.2 _ (List.getElem_mem hlt0);generalize d.opts[i0]=x at *
  simp only [List.map_cons,List.map_nil,List.append_nil] at hL0;refine awN ?_;simp only [F89,seval,de,hI0,hat0];repeat refine ob ?_
  refine awT ?_;refine awK ?_;simp only [F89,seval];refine awD (scT 0 8 (scT 9 6 (scq [16,31,32,34,37,38] .nil))) [0,0,0,0,0,0,0,0,0,0,0,0,0,0,0,0,0,0,0,0] ?_;simp only [F89,seval,de,hI0,hat0,hat0,jU,ai];repeat refine ob ?_
  refine ⟨_,(pz hox),rfl,?_⟩;try simp only [ak,F89,seval,de,hI0,hat0,hat0,jU,ai]
  repeat refine ob ?_
  refine awN ?_;simp only [F89,seval,de,hI0,hat0];repeat refine ob ?_
  repeat refine ob ?_
  refine ⟨_,aI [1,2,3,4] [1,2,3,32],d.opts.length-(i0+1),by omega,i0+1,(oo++[clO x]),?a6_so,?a6_nx,by omega,rfl,?i6_0,?i6_1,?st6⟩;case st6=>(simp only [F89,seval,a7,clO,jU,List.length_append,List.length_cons,List.length_nil,de,hI0,hat0];first|rfl|(simp [a7,clO,jU,List.length_append,List.length_cons,List.length_nil,hI0,hat0,Nat.add_mul];done))
  case i6_0=>(simpa using hL0)
  all_goals (first|omega|assumption|(simp;omega)|(simp_all;done))
 obtain rfl:i0=d.opts.length:=by omega
 have hI0:¬(d.opts.length:Int)<(d.opts.length:Int):=by omega
 rw [List.drop_length] at hL0;simp only [List.map_cons,List.map_nil,List.append_nil] at hL0;have hoo:oo=d.opts.map clO:=by simpa using hL0
 subst hoo;refine awN ?_;simp only [F89,seval,de,hI0];repeat refine ob ?_
 refine awF ?_;refine awQ ?_;simp only [F89,seval];refine dp 32 3 2 (by rfl) (by rfl) (by rfl) (by decide) (by show (4:Nat)≠0;decide) (by show (3:Nat)≠0;decide) rfl ?_;simp only [F89,seval];refine awN ?_;simp only [F89,seval,de,hI0];repeat refine ob ?_
 refine awX ?_;simp only [F89,seval];simp [nt,de,al,ax,ab ld]
def F90:=And.intro zS (And.intro Lf (And.intro Ew (And.intro CI (And.intro Hu (And.intro CJ (And.intro Hv (And.intro Gk (And.intro I2 (And.intro tw (And.intro tz (And.intro Gl (And.intro Gq (And.intro A0 (Fl))))))))))))))
theorem F91:type_of%F90:=F90
theorem L4 (g:GGrp) (l:List GDisp) (i op9:Int) (hg:cqG g) (hg2:Kf g) (hl:cqD l):aR prog 25 [.agg (am g),.one (.sh 3 l.length (aA de l)),.one (.lit (.int .i64 i)),.one (.lit (.int .i64 op9))] (.tup [.agg (am (dcG (rcS (ne g) g l) g l i op9).1),.one (.sh 3 (dcG (rcS (ne g) g l) g l i op9).2.1.length (aA de (dcG (rcS (ne g) g l) g l i op9).2.1)),.one (.lit (.int .i64 (dcG (rcS (ne g) g l) g l i op9).2.2))]):=by
 refine aP func25 rfl (by decide) (N:=79) rfl (by simp) (R:=[.cell 8 28,.tmp 9,.tmp 10]) rfl fun en k0=>?_
 refine awN ?_;simp only [F91,seval,am];repeat refine ob ?_
 have hK:=Mm g l hg2 hl.1;refine awN ?_;simp only [F91,seval,am,ab b5,ab aN,ab eq];repeat refine ob ?_
 refine ⟨_,hK,(by first|rfl|simp [aU,aD,al,ax,A1.cells,am,de,ab ld,ab b5,ab aN,ab eq]),?_⟩;try simp only [ak,F91,seval,am,ab b5,ab aN,ab eq]
 repeat refine ob ?_
 by_cases h0:rcS (ne g) g l=0
 ·refine awN ?_;simp only [F91,seval,am,h0];repeat refine ob ?_
  refine awF ?_;refine awK ?_;simp only [F91,seval];by_cases hi0:i<0
  ·have h0d:dcS (kR g) g l=0:=by rw [Ls,Lq];exact h0
   have hdx:=Jw h0d;have hl8:=hdx.1;have hn1:=hg.1;refine awR [] [0,0,0,50,50,50,50,0] ?_;simp only [F91,seval,am,h0,hi0];repeat refine ob ?_
   refine awT ?_;refine awN ?_;simp only [F91,seval,am,h0,hi0];repeat refine ob ?_
   refine cm (dz 8 [.sh 5 0 [],.sh 4 0 []] (by rfl) (by show (2:Nat)≠0;decide) (by rfl) (fun κ vs h=>lx h)) ?_;simp only [F91,seval];refine gS 9 98 109 3 (by decide) (by rfl) ?_;have hD:dcG (0) g l i op9=(⟨[],[]⟩,[],1):=by
    unfold dcG;rw [if_pos rfl,if_neg (by omega)]
   refine awX ?_;simp only [F91,seval];simp [hD,am,ve]
  by_cases hi1:(l.length:Int)<=i
  ·have h0d:dcS (kR g) g l=0:=by rw [Ls,Lq];exact h0
   have hdx:=Jw h0d;have hl8:=hdx.1;have hn1:=hg.1;refine awR [] [0,0,0,50,50,50,50,0] ?_;simp only [F91,seval,am,h0,hi0,hi1];repeat refine ob ?_
   refine awT ?_;refine awN ?_;simp only [F91,seval,am,h0,hi0,hi1];repeat refine ob ?_
   refine cm (dz 8 [.sh 5 0 [],.sh 4 0 []] (by rfl) (by show (2:Nat)≠0;decide) (by rfl) (fun κ vs h=>lx h)) ?_;simp only [F91,seval];refine gS 9 98 109 3 (by decide) (by rfl) ?_;have hD:dcG (0) g l i op9=(⟨[],[]⟩,[],1):=by
    unfold dcG;rw [if_pos rfl,if_neg (by omega)]
   refine awX ?_;simp only [F91,seval];simp [hD,am,ve]
  obtain ⟨j,rfl⟩:∃j:Nat,i=(j:Int):=⟨i.toNat,by omega⟩;have hjl:j<l.length:=by omega
  have hatl:=aO gB l j hjl;obtain ⟨d0,hd0⟩:∃d,l[j]=d:=⟨_,rfl⟩;rw [hd0] at hatl;have hgd:l.getD ((j:Nat):Int).toNat default=d0:=by rw [Int.toNat_natCast,List.getD_eq_getElem?_getD,List.getElem?_eq_getElem hjl,hd0];rfl
  have h0d:dcS (kR g) g l=0:=by rw [Ls,Lq];exact h0
  have hdx:=Jw h0d;have hl8:=hdx.1;have hn1:=hg.1;refine awR [] [0,0,0,50,50,50,50,0] ?_;simp only [F91,seval,am,h0,hi0,hi1];repeat refine ob ?_
  refine awF ?_;refine awK ?_;simp only [F91,seval];by_cases ho0:op9<0
  ·refine awR [] [0,0,0,68,68,68,68,68,68,68,68,0] ?_;simp only [F91,seval,am,h0,hi0,hi1,ho0,hatl,de];repeat refine ob ?_
   refine awT ?_;refine awN ?_;simp only [F91,seval,am,h0,hi0,hi1,ho0];repeat refine ob ?_
   refine cm (dz 8 [.sh 5 0 [],.sh 4 0 []] (by rfl) (by show (2:Nat)≠0;decide) (by rfl) (fun κ vs h=>lx h)) ?_;simp only [F91,seval];refine gS 9 98 109 3 (by decide) (by rfl) ?_;have hD:dcG (0) g l j op9=(⟨[],[]⟩,[],41):=by
    unfold dcG;rw [if_pos rfl,if_pos (by omega),hgd,if_neg (by omega)]
   refine awX ?_;simp only [F91,seval];simp [hD,am,ve]
  by_cases ho1:(d0.opts.length:Int)<=op9
  ·refine awR [] [0,0,0,68,68,68,68,68,68,68,68,0] ?_;simp only [F91,seval,am,h0,hi0,hi1,ho0,ho1,hatl,de];repeat refine ob ?_
   refine awT ?_;refine awN ?_;simp only [F91,seval,am,h0,hi0,hi1,ho0,ho1];repeat refine ob ?_
   refine cm (dz 8 [.sh 5 0 [],.sh 4 0 []] (by rfl) (by show (2:Nat)≠0;decide) (by rfl) (fun κ vs h=>lx h)) ?_;simp only [F91,seval];refine gS 9 98 109 3 (by decide) (by rfl) ?_;have hD:dcG (0) g l j op9=(⟨[],[]⟩,[],41):=by
    unfold dcG;rw [if_pos rfl,if_pos (by omega),hgd,if_neg (by omega)]
   refine awX ?_;simp only [F91,seval];simp [hD,am,ve]
  refine awR [] [0,0,0,68,68,68,68,68,68,68,68,0] ?_;simp only [F91,seval,am,h0,hi0,hi1,ho0,ho1,hatl,de];repeat refine ob ?_
  refine awF ?_;refine awK ?_;simp only [F91,seval];refine awR [45] [0,0,0,0] ?_;simp only [F91,seval,am,h0,hi0,hi1,ho0,ho1];repeat refine ob ?_
  refine ⟨_,MR g hg _ _ (fun y B hB=>?_),?_⟩
  ·simp only [aB] at hB;repeat (split at hB;· omega)
   cases hB
  rintro res H' nxA ⟨ps0,s0,t0,hps0,rfl,rfl⟩;simp only [F91,seval,(id SD)];repeat refine ob ?_
  have hdm:d0∈l:=hd0▸List.getElem_mem hjl;obtain ⟨x1,x2,x3,x4⟩:=MH (hdx.2 d0 hdm);obtain ⟨y,hxy⟩:∃y:Nat,op9=y:=⟨op9.toNat,by omega⟩;have hyl:y<d0.opts.length:=by omega
  have hato:=aO lf d0.opts y hyl;obtain ⟨op,hopx⟩:∃op,d0.opts[y]=op:=⟨_,rfl⟩;rw [hopx] at hato;have hop:cqR op.amount:=hl.2 d0 hdm op (hopx▸List.getElem_mem hyl);have hxo:d0.opts.getD op9.toNat default=op:=by rw [hxy,Int.toNat_natCast,List.getD_eq_getElem?_getD,List.getElem?_eq_getElem hyl,hopx];rfl
  have hpl:ps0.length=g.ests.length:=by have:=congrArg List.length hps0;simpa using this
  have hsh:shp (ps0.map (·.1))=shp g.ests:=by rw [hps0];exact LG _
  obtain ⟨q0,hq0⟩:∃q,ps0[d0.est.toNat]? =some q:=⟨_,List.getElem?_eq_getElem (by omega)⟩;have hqe:(ps0.map (·.1)).getD d0.est.toNat gr=q0.1:=by rw [List.getD_eq_getElem?_getD,List.getElem?_map,hq0];rfl
  have hqc:q0.1.claims.length=(g.ests.getD d0.est.toNat gr).claims.length:=by rw [←hqe];exact MG hsh _
  have hcb:=(hg.2.1 _ (show g.ests.getD d0.est.toNat gr∈g.ests by rw [Jo _ _ (show d0.est.toNat<g.ests.length by omega)];exact List.getElem_mem _)).2.1;simp only [jU] at hato;have hy9:op9=(y:Int):=hxy;repeat' first|apply awS|apply awB
  refine cb [59] (by kernel_rfl) (.cons 0 true (.cons 1 true (.cons 2 true (.cons 3 true (.cons 4 true (.cons 5 true (.cons 6 true (.cons 7 true (.cons 8 true (.cons 9 true (.cons 10 true (.cons 11 true (.cons 12 true (.cons 13 false .nil)))))))))))))) (by kernel_rfl) (gs:=[none,none,none,none,none,none,none,none,none,none,none,none,none,none]) (by kernel_rfl) (by simp only [zT,seval];rfl) (by decide) ?_;simp only [F91,seval,am,h0,hi0,hi1,ho0,ho1,hatl,de,hato,gp,jU,hy9,(id SD)];repeat refine ob ?_
  refine ⟨_,N5 ps0 (g.debts.map clD) d0.est d0.cl op q0 g.ests.length s0 12 nxA _ _ hpl.symm hn1 hop x1 hq0 x3 (by omega) (by omega) (by decide) (by rfl) (by rfl) (fun i r hr=>?_) (fun y B hB=>?_),?_⟩
  ·simp only [aB];repeat rw [if_neg (by omega)]
   exact JK (by decide) hr
  ·simp only [aB] at hB;repeat (split at hB;· omega)
   rcases wN hB with ⟨a,r,rfl,_,_⟩|h
   ·right;omega
   simp only [aB] at h;repeat (split at h;· omega)
   cases h
  rintro res H' nx' ⟨rfl,hH9⟩;simp only [F91,seval,(id SD)];repeat refine ob ?_
  have h8:H' 8=some _:=hH9 8 _ (by simp only [aB];rw [if_neg (by omega)];rfl);have h12:H' 12=some _:=hH9 12 _ (by simp only [aB];rw [if_neg (by omega)];rfl);have h272:H' 272=some _:=hH9 272 _ (by simp only [aB];rw [if_neg (by omega)];rfl);refine eC (tbl 103 38 (ps0.set d0.est.toNat (stC q0.1 d0.cl.toNat op,q0.2))) [1,2,3,8,9,10,12] [8,12,272] (KY hq0 hH9 (fun y B hB=>?tt9) _) ?_;case tt9=>
   obtain ⟨a,r,rfl,_,_⟩:=hZ hB;simp only [aB];repeat rw [if_neg (by omega)]
   unfold orT;rw [hB]
  simp only [F91,seval,h8,h12,h272];have hrw:eRw (gm 103) ps0 0=eRw (gm 103) (ps0.set d0.est.toNat (stC q0.1 d0.cl.toNat op,q0.2)) 0:=(KZ hq0).symm;rw [hrw];have hap:(ps0.set d0.est.toNat (stC q0.1 d0.cl.toNat op,q0.2)).map (·.1)=stL (g.ests.map clE) d0 op9:=by rw [MO hq0,hps0];unfold stL;rw [hxo]
  have hpl1:(ps0.set d0.est.toNat (stC q0.1 d0.cl.toNat op,q0.2)).length=g.ests.length:=by rw [List.length_set];exact hpl
  generalize (ps0.set d0.est.toNat (stC q0.1 d0.cl.toNat op,q0.2))=ps at *
  refine awN ?_;simp only [F91,seval,am,h0,hi0,hi1,ho0,ho1];repeat refine ob ?_
  refine awN ?_;simp only [F91,seval,am,h0,hi0,hi1,ho0,ho1];repeat refine ob ?_
  refine gS 13 76 109 3 (by decide) (by rfl) ?_;refine eC (tbl 103 38 ps) [1,2,3,8,10,12,13,14] [8,12,272,76] (by intro y B h;obtain ⟨a,r,rfl,h2,h3⟩:=hZ h;right;simp only [aB];(repeat rw [if_neg (by omega)]);exact h) ?_;try simp only [ak,F91,seval,am,h0,hi0,hi1,ho0,ho1,a7,nt,de,List.length_append,List.length_cons,List.length_nil,List.length_map]
  repeat' first|apply awS|apply awB
  refine aM (fun n st=>∃i0 out sr nx,i0<=l.length/\n=l.length-i0/\rsL j (List.map nt (l.drop i0)) i0 out=rsL j (List.map nt l) 0 []/\out.length<=i0/\st=⟨mkT [(1,.val (.one (.sh 3 l.length (aA de l)))),(2,one (.int .i64 (j:Int))),(3,one (.int .i64 (y:Int))),(8,.val (.one (.ptr 8 1 0))),(10,one (.int .i64 0)),(12,.val (.one (.ptr 12 nxA 0))),(13,.val (.one (.own 76 sr out.length 3))),(14,one (.int .i64 i0))],bZ (tbl 103 38 ps) [(8,zB 1),(12,⟨nxA,28,2,1,[.own 272 s0 g.ests.length 5,.sh 4 g.debts.length (aA fu (g.debts.map clD))]⟩),(272,⟨s0,36,5,g.ests.length,eRw (gm 103) ps 0⟩),(76,⟨sr,109,3,out.length,aA de out⟩)],nx,0⟩) (l.length) ⟨0,[],_,_,by omega,by omega,by rfl,(by first|omega|assumption|rfl|simp|(simp;omega)),rfl⟩ ?_;rintro n0 st ⟨i0,out,sr,nx0,hk0,rfl,hL0,hV0_1,rfl⟩;by_cases hlt0:i0<l.length
  ·have hI0:(i0:Int)<(l.length:Int):=by omega
   have hat0:=aO gB l i0 hlt0;try rw [Nat.mul_one] at hat0
   rw [List.drop_eq_getElem_cons hlt0] at hL0;have hdm9:l[i0]∈l:=(List.getElem_mem hlt0);have hdo:l[i0].opts.length<=1000000/\∀x∈l[i0].opts,cqR x.amount:=⟨(hl.1.2 _ (List.getElem_mem hlt0)).1,hl.2 _ (List.getElem_mem hlt0)⟩;generalize l[i0]=d at *
   simp only [List.map_cons,List.map_nil,rsL] at hL0;refine awN ?_;simp only [F91,seval,am,h0,hi0,hi1,ho0,ho1,hI0,hat0];repeat refine ob ?_
   refine awT ?_;refine awK ?_;simp only [F91,seval];by_cases hkj:i0=j
   ·have yk:(((i0:Nat):Int)=(j:Int))=True:=eq_true (by omega);refine awN ?_;simp only [F91,seval,am,h0,hi0,hi1,ho0,ho1,hI0,hat0,yk];repeat refine ob ?_
    refine awF ?_;refine awK ?_;simp only [F91,seval];refine awN ?_;simp only [F91,seval,am,h0,hi0,hi1,ho0,ho1,hI0,hat0,yk];repeat refine ob ?_
    repeat refine ob ?_
    refine ⟨_,fP (tbl 103 38 ps) [1,2,3,8,10,12,13,14] [8,12,272,76] (by intro y B h;obtain ⟨a,r,rfl,h2,h3⟩:=hZ h;right;simp only [aB];(repeat rw [if_neg (by omega)]);exact h),l.length-(i0+1),by omega,i0+1,(out),?a24_sr,?a24_nx,by omega,rfl,?i24_0,?i24_1,?st24⟩;case st24=>(simp only [F91,seval,a7,nt,de,List.length_append,List.length_cons,List.length_nil,List.length_map,am,h0,hi0,hi1,ho0,ho1,hI0,hat0,yk];first|rfl|(simp [a7,nt,de,List.length_append,List.length_cons,List.length_nil,List.length_map,h0,hi0,hi1,ho0,ho1,hI0,hat0,yk,Nat.add_mul];done))
    case i24_0=>(have hij9:i0=j:=(by omega);simpa [hij9] using hL0)
    all_goals (first|omega|assumption|(simp;omega)|(simp_all;done))
   have yk:(((i0:Nat):Int)=(j:Int))=False:=eq_false (by omega);refine awN ?_;simp only [F91,seval,am,h0,hi0,hi1,ho0,ho1,hI0,hat0,yk];repeat refine ob ?_
   refine awT ?_;refine awN ?_;simp only [F91,seval,am,h0,hi0,hi1,ho0,ho1,hI0,hat0,yk,hat0,de,ab ld];repeat refine ob ?_
   refine ⟨_,(K1 d hdo),(by first|rfl|simp [aU,aD,al,ax,A1.cells,am,de,ab ld,ab b5,ab aN,ab eq]),?_⟩;try simp only [ak,F91,seval,am,h0,hi0,hi1,ho0,ho1,hI0,hat0,yk,hat0,de,ab ld]
   repeat refine ob ?_
   refine awN ?_;simp only [F91,seval,am,h0,hi0,hi1,ho0,ho1,hI0,hat0,yk];repeat refine ob ?_
   repeat refine ob ?_
   refine ⟨_,fP (tbl 103 38 ps) [1,2,3,8,10,12,13,14] [8,12,272,76] (by intro y B h;obtain ⟨a,r,rfl,h2,h3⟩:=hZ h;right;simp only [aB];(repeat rw [if_neg (by omega)]);exact h),l.length-(i0+1),by omega,i0+1,(out++[nt d]),?a28_sr,?a28_nx,by omega,rfl,?i28_0,?i28_1,?st28⟩;case st28=>(simp only [F91,seval,a7,nt,de,List.length_append,List.length_cons,List.length_nil,List.length_map,am,h0,hi0,hi1,ho0,ho1,hI0,hat0,yk];first|rfl|(simp [a7,nt,de,List.length_append,List.length_cons,List.length_nil,List.length_map,h0,hi0,hi1,ho0,ho1,hI0,hat0,yk,Nat.add_mul];done))
   case i28_0=>(have hij9:¬i0=j:=(by omega);simpa [hij9] using hL0)
   all_goals (first|omega|assumption|(simp;omega)|(simp_all;done))
  obtain rfl:i0=l.length:=by omega
  have hI0:¬(l.length:Int)<(l.length:Int):=by omega
  rw [List.drop_length] at hL0;simp only [List.map_cons,List.map_nil,rsL] at hL0;refine awN ?_;simp only [F91,seval,am,h0,hi0,hi1,ho0,ho1,hI0];repeat refine ob ?_
  refine awF ?_;refine awQ ?_;simp only [F91,seval];refine gT (t:=13) (by rfl) (by rfl) (by decide) (by rfl) ?_;simp only [F91,seval];refine eC (tbl 103 38 ps) [8,10,12,13] [272,8,12] (by intro y B h;obtain ⟨a,r,rfl,h2,h3⟩:=hZ h;right;simp only [aB];(repeat rw [if_neg (by omega)]);exact h) ?_;simp only [F91,seval];refine cm (KS 103 38 36 (by decide) 272 [(8,_),(12,_)] (by simp) (by decide) g.ests.length _ ps) ?_;have hnl:(stL (g.ests.map clE) d0 op9).length=g.ests.length:=by rw [←hap,List.length_map];exact hpl1
  rw [JS,hap];simp only [F91,seval];refine dp 272 12 0 (by rfl) (by rfl) (by rfl) (by decide) (by show (5:Nat)≠0;decide) (by show (2:Nat)≠0;decide) rfl ?_;simp only [F91,seval];refine awN ?_;simp only [F91,seval,am,h0,hi0,hi1,ho0,ho1,hI0];repeat refine ob ?_
  have hD:dcG 0 g l j (y:Int)=(⟨stL (g.ests.map clE) d0 op9,g.debts.map clD⟩,(l.eraseIdx j).map nt,0):=by
   rw [←hy9];unfold dcG;rw [if_pos rfl,if_pos (by omega),hgd,if_pos (by omega)];try rfl
  have ho:out=(l.eraseIdx j).map nt:=by rw [hL0];exact MN j l
  refine awX ?_;simp only [F91,seval,ab b5,ab aN,ab eq];simp [hD,am,hnl,←ho]
 refine awN ?_;simp only [F91,seval,am,h0];repeat refine ob ?_
 refine awT ?_;refine awN ?_;simp only [F91,seval,am,h0];repeat refine ob ?_
 refine cm (dz 8 [.sh 5 0 [],.sh 4 0 []] (by rfl) (by show (2:Nat)≠0;decide) (by rfl) (fun κ vs h=>lx h)) ?_;simp only [F91,seval];refine gS 9 98 109 3 (by decide) (by rfl) ?_;have hD:dcG (rcS (ne g) g l) g l i op9=(⟨[],[]⟩,[],rcS (ne g) g l):=by
  unfold dcG;rw [if_neg h0]
 refine awX ?_;simp only [F91,seval];simp [hD,am,ve]
theorem K2 : (prog.fieldsOf 32).toList = [⟨"Neg", 4, 0, false, "", "", 0⟩, ⟨"Num", 9, 1, false, "", "", 8⟩, ⟨"Den", 9, 2, false, "", "", 24⟩] := by kernel_rfl
theorem L5:ldT prog 4=some (false,1):=by kernel_rfl
theorem K3:ldT prog 9=some (false,1):=by kernel_rfl
theorem K4:ldT prog 32=some (true,3):=by kernel_rfl
theorem JY (cs:Array Value) (i:Nat) (v:Value) (h:cs[i]? =some v) (w:World):(part 4 cs i).run prog w= .ok v w:=by
 simp [part,(lG L5 w).1,h]
theorem Kc (cs:Array Value) (i:Nat) (v:Value) (h:cs[i]? =some v) (w:World):(part 9 cs i).run prog w= .ok v w:=by
 simp [part,(lG K3 w).1,h]
theorem Jx (cs:Array Value) (i:Nat) (a b c:Value) (h:cs.extract i (i+3)= #[a,b,c]) (h2:i+3<=cs.size) (w:World):(part 32 cs i).run prog w= .ok (.agg #[a,b,c]) w:=by
 simp [part,(lF K4 w).1,(lF K4 w).2,h,h2]
theorem Ku (x:Bool) (y z:ByteArray) (d:Nat) (w:World):(Op.equalIn (d+2) 32 (.agg #[.bool x,.string y,.string z]) (.agg #[.bool x,.string y,.string z])).run prog w= .ok true w:=by
 have h2:=run_equalIn_agg (P:=prog) w (d+1) 32 #[.bool x,.string y,.string z] #[.bool x,.string y,.string z] (by kernel_rfl) (by kernel_rfl);have hb:=fun (a b:Bool)=>run_equalIn_bool' (P:=prog) w d 4 a b (by kernel_rfl)
 have hs:=fun (a b:ByteArray)=>run_equalIn_string (P:=prog) w d 9 a b (by kernel_rfl)
 have p0:=JY #[.bool x,.string y,.string z] 0 _ rfl w;have p1:=Kc #[.bool x,.string y,.string z] 1 _ rfl w;have p2:=Kc #[.bool x,.string y,.string z] 2 _ rfl w;rw [h2,K2];have n1 : ¬ "Neg" = "_" := by decide
 have n2 : ¬ "Num" = "_" := by decide
 have n3 : ¬ "Den" = "_" := by decide
 simp only [Op.eqFields,ne_eq,n1,n2,n3,not_false_eq_true,if_true,Sem.run_bind,p0,p1,p2,Result.andThen_ok,hb,hs];simp [hb,hs,p0,p1,p2,n1,n2,n3,Op.eqFields]
theorem LH (a:GRat):DY prog 32 [.bool a.neg,.string a.num,.string a.den] [.bool a.neg,.string a.num,.string a.den]:=fun w=>⟨by
 have h:=Ku a.neg a.num a.den 9998 w;have h3:(Op.equal 32 (.agg #[.bool a.neg,.string a.num,.string a.den]) (.agg #[.bool a.neg,.string a.num,.string a.den])).run prog w=(Op.equalIn (9998+2) 32 (.agg #[.bool a.neg,.string a.num,.string a.den]) (.agg #[.bool a.neg,.string a.num,.string a.den])).run prog w:=rfl;show (Op.equal 32 (.agg #[.bool a.neg,.string a.num,.string a.den]) (.agg #[.bool a.neg,.string a.num,.string a.den])).run prog w=_;rw [h3,h];simp [jn,eqV],by kernel_rfl⟩
theorem LI (a:GRat):jn [.bool a.neg,.string a.num,.string a.den] [.bool a.neg,.string a.num,.string a.den]=true:=by simp [jn,eqV]
theorem Kv : (prog.fieldsOf 38).toList = [⟨"Holder", 3, 0, false, "", "", 0⟩, ⟨"Rank", 3, 1, false, "", "", 8⟩, ⟨"Amount", 32, 2, false, "", "", 16⟩] := by kernel_rfl
theorem L6 (a:GClaim):DY prog 38 [.int .i64 a.holder,.int .i64 a.rank,.bool a.amount.neg,.string a.amount.num,.string a.amount.den] [.int .i64 a.holder,.int .i64 a.rank,.bool a.amount.neg,.string a.amount.num,.string a.amount.den]:=fun w=>⟨by
 have h2:=run_equalIn_agg (P:=prog) w 9999 38 #[.int .i64 a.holder,.int .i64 a.rank,.bool a.amount.neg,.string a.amount.num,.string a.amount.den] #[.int .i64 a.holder,.int .i64 a.rank,.bool a.amount.neg,.string a.amount.num,.string a.amount.den] (by kernel_rfl) (by kernel_rfl);have h3:(Op.equal 38 (.agg #[.int .i64 a.holder,.int .i64 a.rank,.bool a.amount.neg,.string a.amount.num,.string a.amount.den]) (.agg #[.int .i64 a.holder,.int .i64 a.rank,.bool a.amount.neg,.string a.amount.num,.string a.amount.den])).run prog w=(Op.equalIn (9999+1) 38 (.agg #[.int .i64 a.holder,.int .i64 a.rank,.bool a.amount.neg,.string a.amount.num,.string a.amount.den]) (.agg #[.int .i64 a.holder,.int .i64 a.rank,.bool a.amount.neg,.string a.amount.num,.string a.amount.den])).run prog w:=rfl;have hi:=fun (x y:Int)=>run_equalIn_int (P:=prog) w 9998 3 .i64 .i64 x y (by kernel_rfl)
 have hb:=fun (a b:Bool)=>run_equalIn_bool' (P:=prog) w 9998 4 a b (by kernel_rfl)
 have hr:=Ku a.amount.neg a.amount.num a.amount.den 9997 w;have p0:=u4 #[.int .i64 a.holder,.int .i64 a.rank,.bool a.amount.neg,.string a.amount.num,.string a.amount.den] 0 _ rfl w;have p1:=u4 #[.int .i64 a.holder,.int .i64 a.rank,.bool a.amount.neg,.string a.amount.num,.string a.amount.den] 1 _ rfl w;have p2:=Jx #[.int .i64 a.holder,.int .i64 a.rank,.bool a.amount.neg,.string a.amount.num,.string a.amount.den] 2 (.bool a.amount.neg) (.string a.amount.num) (.string a.amount.den) (by rfl) (by simp) w;show (Op.equal 38 (.agg #[.int .i64 a.holder,.int .i64 a.rank,.bool a.amount.neg,.string a.amount.num,.string a.amount.den]) (.agg #[.int .i64 a.holder,.int .i64 a.rank,.bool a.amount.neg,.string a.amount.num,.string a.amount.den])).run prog w=_;rw [h3,h2,Kv];have n0 : ¬ "Holder" = "_" := by decide
 have n1 : ¬ "Rank" = "_" := by decide
 have n2 : ¬ "Amount" = "_" := by decide
 simp only [Op.eqFields,ne_eq,n0,n1,n2,not_false_eq_true,if_true,Sem.run_bind,p0,p1,p2,Result.andThen_ok,hi,hb,hr];simp [hi,hb,hr,p0,p1,p2,n0,n1,n2,Op.eqFields,jn,eqV],by kernel_rfl⟩
theorem L7 (a:GClaim):jn [.int .i64 a.holder,.int .i64 a.rank,.bool a.amount.neg,.string a.amount.num,.string a.amount.den] [.int .i64 a.holder,.int .i64 a.rank,.bool a.amount.neg,.string a.amount.num,.string a.amount.den]=true:=by simp [jn,eqV]
theorem K5 : (prog.fieldsOf 46).toList = [⟨"Claim", 3, 0, false, "", "", 0⟩, ⟨"Capped", 4, 1, false, "", "", 8⟩, ⟨"Cap", 32, 2, false, "", "", 16⟩] := by kernel_rfl
theorem MS (a:GPart):DY prog 46 [.int .i64 a.claim,.bool a.capped,.bool a.cap.neg,.string a.cap.num,.string a.cap.den] [.int .i64 a.claim,.bool a.capped,.bool a.cap.neg,.string a.cap.num,.string a.cap.den]:=fun w=>⟨by
 have h2:=run_equalIn_agg (P:=prog) w 9999 46 #[.int .i64 a.claim,.bool a.capped,.bool a.cap.neg,.string a.cap.num,.string a.cap.den] #[.int .i64 a.claim,.bool a.capped,.bool a.cap.neg,.string a.cap.num,.string a.cap.den] (by kernel_rfl) (by kernel_rfl);have h3:(Op.equal 46 (.agg #[.int .i64 a.claim,.bool a.capped,.bool a.cap.neg,.string a.cap.num,.string a.cap.den]) (.agg #[.int .i64 a.claim,.bool a.capped,.bool a.cap.neg,.string a.cap.num,.string a.cap.den])).run prog w=(Op.equalIn (9999+1) 46 (.agg #[.int .i64 a.claim,.bool a.capped,.bool a.cap.neg,.string a.cap.num,.string a.cap.den]) (.agg #[.int .i64 a.claim,.bool a.capped,.bool a.cap.neg,.string a.cap.num,.string a.cap.den])).run prog w:=rfl;have hi:=fun (x y:Int)=>run_equalIn_int (P:=prog) w 9998 3 .i64 .i64 x y (by kernel_rfl)
 have hb:=fun (a b:Bool)=>run_equalIn_bool' (P:=prog) w 9998 4 a b (by kernel_rfl)
 have hr:=Ku a.cap.neg a.cap.num a.cap.den 9997 w;have p0:=u4 #[.int .i64 a.claim,.bool a.capped,.bool a.cap.neg,.string a.cap.num,.string a.cap.den] 0 _ rfl w;have p1:=JY #[.int .i64 a.claim,.bool a.capped,.bool a.cap.neg,.string a.cap.num,.string a.cap.den] 1 _ rfl w;have p2:=Jx #[.int .i64 a.claim,.bool a.capped,.bool a.cap.neg,.string a.cap.num,.string a.cap.den] 2 (.bool a.cap.neg) (.string a.cap.num) (.string a.cap.den) (by rfl) (by simp) w;show (Op.equal 46 (.agg #[.int .i64 a.claim,.bool a.capped,.bool a.cap.neg,.string a.cap.num,.string a.cap.den]) (.agg #[.int .i64 a.claim,.bool a.capped,.bool a.cap.neg,.string a.cap.num,.string a.cap.den])).run prog w=_;rw [h3,h2,K5];have n0 : ¬ "Claim" = "_" := by decide
 have n1 : ¬ "Capped" = "_" := by decide
 have n2 : ¬ "Cap" = "_" := by decide
 simp only [Op.eqFields,ne_eq,n0,n1,n2,not_false_eq_true,if_true,Sem.run_bind,p0,p1,p2,Result.andThen_ok,hi,hb,hr];simp [hi,hb,hr,p0,p1,p2,n0,n1,n2,Op.eqFields,jn,eqV],by kernel_rfl⟩
theorem MT (a:GPart):jn [.int .i64 a.claim,.bool a.capped,.bool a.cap.neg,.string a.cap.num,.string a.cap.den] [.int .i64 a.claim,.bool a.capped,.bool a.cap.neg,.string a.cap.num,.string a.cap.den]=true:=by simp [jn,eqV]
theorem Ll : (prog.fieldsOf 121).toList = [⟨"Amount", 32, 0, false, "", "", 0⟩, ⟨"Rank", 3, 3, false, "", "", 40⟩] := by kernel_rfl
theorem Nm (a:GOpt):DY prog 121 [.bool a.amount.neg,.string a.amount.num,.string a.amount.den,.int .i64 a.rank] [.bool a.amount.neg,.string a.amount.num,.string a.amount.den,.int .i64 a.rank]:=fun w=>⟨by
 have h2:=run_equalIn_agg (P:=prog) w 9999 121 #[.bool a.amount.neg,.string a.amount.num,.string a.amount.den,.int .i64 a.rank] #[.bool a.amount.neg,.string a.amount.num,.string a.amount.den,.int .i64 a.rank] (by kernel_rfl) (by kernel_rfl);have h3:(Op.equal 121 (.agg #[.bool a.amount.neg,.string a.amount.num,.string a.amount.den,.int .i64 a.rank]) (.agg #[.bool a.amount.neg,.string a.amount.num,.string a.amount.den,.int .i64 a.rank])).run prog w=(Op.equalIn (9999+1) 121 (.agg #[.bool a.amount.neg,.string a.amount.num,.string a.amount.den,.int .i64 a.rank]) (.agg #[.bool a.amount.neg,.string a.amount.num,.string a.amount.den,.int .i64 a.rank])).run prog w:=rfl;have hi:=fun (x y:Int)=>run_equalIn_int (P:=prog) w 9998 3 .i64 .i64 x y (by kernel_rfl)
 have hb:=fun (a b:Bool)=>run_equalIn_bool' (P:=prog) w 9998 4 a b (by kernel_rfl)
 have hr:=Ku a.amount.neg a.amount.num a.amount.den 9997 w;have p0:=Jx #[.bool a.amount.neg,.string a.amount.num,.string a.amount.den,.int .i64 a.rank] 0 (.bool a.amount.neg) (.string a.amount.num) (.string a.amount.den) (by rfl) (by simp) w;have p1:=u4 #[.bool a.amount.neg,.string a.amount.num,.string a.amount.den,.int .i64 a.rank] 3 _ rfl w;show (Op.equal 121 (.agg #[.bool a.amount.neg,.string a.amount.num,.string a.amount.den,.int .i64 a.rank]) (.agg #[.bool a.amount.neg,.string a.amount.num,.string a.amount.den,.int .i64 a.rank])).run prog w=_;rw [h3,h2,Ll];have n0 : ¬ "Amount" = "_" := by decide
 have n1 : ¬ "Rank" = "_" := by decide
 simp only [Op.eqFields,ne_eq,n0,n1,not_false_eq_true,if_true,Sem.run_bind,p0,p1,Result.andThen_ok,hi,hb,hr];simp [hi,hb,hr,p0,p1,n0,n1,Op.eqFields,jn,eqV],by kernel_rfl⟩
theorem Nn (a:GOpt):jn [.bool a.amount.neg,.string a.amount.num,.string a.amount.den,.int .i64 a.rank] [.bool a.amount.neg,.string a.amount.num,.string a.amount.den,.int .i64 a.rank]=true:=by simp [jn,eqV]
def F92:=And.intro zS (And.intro Hr (And.intro Er (tz)))
theorem F93:type_of%F92:=F92
theorem Kw (l:List Leg) (hl:l.length<=1000000000000):aR prog 69 [.one (.sh 2 l.length (aA gp l)),.one (.sh 2 l.length (aA gp l))] (one (.bool true)):=by
 refine aP func69 rfl (by decide) (N:=26) rfl (by simp) (R:=[.tmp 4]) rfl fun en k0=>?_
 refine awN ?_;simp only [F93,seval];repeat refine ob ?_
 refine awN ?_;simp only [F93,seval,decide_true,Bool.not_true,BEq.rfl];repeat refine ob ?_
 refine awF ?_;refine awK ?_;simp only [F93,seval];refine awN ?_;simp only [F93,seval];repeat refine ob ?_
 refine aQ [0,1,5] [] ?_;try simp only [ak,F93,seval]
 repeat' first|apply awS|apply awB
 refine aM (fun n st=>∃k nx,k<=l.length/\n=l.length-k/\st=⟨mkT [(0,.val (.one (.sh 2 l.length (aA gp l)))),(1,.val (.one (.sh 2 l.length (aA gp l)))),(5,one (.int .i64 k))],mkH [],nx,0⟩) (l.length) ⟨0,_,by omega,by omega,rfl⟩ ?_;rintro n0 st ⟨k,nx0,hk0,rfl,rfl⟩;by_cases hlt0:(k:Int)<(l.length:Int)
 ·refine awN ?_;simp only [F93,seval,hlt0];repeat refine ob ?_
  refine awT ?_;refine awK ?_;simp only [F93,seval];have hk2:k<l.length:=by omega
  have hat:=aO gt l k hk2;have hq:=Jl l[k] l[k];have hqv:=Jm l[k] l[k];refine awD (scT 0 9 .nil) [0,0,0,0,0,0,0,0,0] ?_;simp only [F93,seval,hlt0,hat,gp,hqv,decide_true,Bool.not_true,BEq.rfl];repeat refine ob ?_
  try refine ⟨hq,?_⟩
  repeat refine ob ?_
  refine awF ?_;refine awK ?_;simp only [F93,seval];refine awN ?_;simp only [F93,seval,hlt0];repeat refine ob ?_
  repeat refine ob ?_
  refine ⟨_,aI [0,1,5] [],l.length-(k+1),by omega,k+1,?na7,by omega,rfl,?st7⟩;case st7=>(simp only [F93,seval];first|rfl|(simp;done))
 refine awN ?_;simp only [F93,seval,hlt0];repeat refine ob ?_
 refine awF ?_;refine awQ ?_;simp only [F93,seval];refine awN ?_;simp only [F93,seval,hlt0];repeat refine ob ?_
 refine awX ?_;(first|(simp only [F93,seval,hlt0];done)|(simp only [F93,seval];first|(simp [hlt0];done)))
def F94:=And.intro zS (AU)
theorem F95:type_of%F94:=F94
theorem Ky (a:GPart):aR prog 157 [.agg (bT a),.agg (bT a)] (one (.bool true)):=by
 refine aP func157 rfl (by decide) (N:=8) rfl (by simp) (R:=[.tmp 4]) rfl fun en k0=>?_
 refine awN ?_;simp only [F95,seval,bT];repeat refine ob ?_
 have hq:=MS a;have hqv:=MT a;refine awN ?_;simp only [F95,seval,bT,hqv];repeat refine ob ?_
 try refine ⟨hq,?_⟩
 repeat refine ob ?_
 refine awX ?_;(first|(simp only [F95,seval,bT];done)|(simp only [F95,seval,bT];first|(simp [];done)))
def F96:=And.intro zS (And.intro tf1 (And.intro tf6 (And.intro tf2 (And.intro tf0 (And.intro tf8 (And.intro KB (And.intro tf3 (AU))))))))
theorem F97:type_of%F96:=F96
theorem K6 (a:bR) (ha:a.length<=1000000000000/\∀t∈a,t.length<=1000000000000):aR prog 118 [.agg (bu a),.agg (bu a)] (one (.bool true)):=by
 have ha1:=ha.1;refine aP func118 rfl (by decide) (N:=62) rfl (by simp) (R:=[.tmp 4]) rfl fun en k0=>?_
 refine awN ?_;simp only [F97,seval,bu];repeat refine ob ?_
 refine awN ?_;simp only [F97,seval,bu,decide_true,Bool.not_true,BEq.rfl];repeat refine ob ?_
 refine awF ?_;refine awK ?_;simp only [F97,seval];refine awN ?_;simp only [F97,seval,bu];repeat refine ob ?_
 refine aQ [2,3,5] [2,3] ?_;try simp only [ak,F97,seval,bu]
 repeat' first|apply awS|apply awB
 refine aM (fun n st=>∃k nx,k<=a.length/\n=a.length-k/\st=⟨mkT [(2,.val (.one (.ptr 2 0 0))),(3,.val (.one (.ptr 3 1 0))),(5,one (.int .i64 k))],mkH [(2,⟨0,50,1,1,bu a⟩),(3,⟨1,50,1,1,bu a⟩)],nx,0⟩) (a.length) ⟨0,_,by omega,by omega,rfl⟩ ?_;rintro n0 st ⟨k,nx0,hk0,rfl,rfl⟩;by_cases hlt0:(k:Int)<(a.length:Int)
 ·refine awN ?_;simp only [F97,seval,bu,hlt0];repeat refine ob ?_
  refine awT ?_;refine awK ?_;simp only [F97,seval];have hk2:k<a.length:=by omega
  have hat:=aO eA a k hk2;rw [Nat.mul_one] at hat;obtain ⟨t,ht⟩:∃t,a[k]=t:=⟨_,rfl⟩;rw [ht] at hat;have hht:=ha.2 t (ht▸List.getElem_mem hk2);refine awD (scT 0 13 .nil) [0,0,0,0,0,0,0,0,0,0,0,0,0] ?_;simp only [F97,seval,bu,hlt0,hat,bD,decide_true,Bool.not_true,BEq.rfl];repeat refine ob ?_
  refine awF ?_;refine awK ?_;simp only [F97,seval];refine awN ?_;simp only [F97,seval,bu,hlt0];repeat refine ob ?_
  refine aQ [2,3,5,6] [2,3] ?_;try simp only [ak,F97,seval,bu,hlt0]
  repeat' first|apply awS|apply awB
  refine aM (fun n st=>∃q nx,q<=t.length/\n=t.length-q/\st=⟨mkT [(2,.val (.one (.ptr 2 0 0))),(3,.val (.one (.ptr 3 1 0))),(5,one (.int .i64 k)),(6,one (.int .i64 q))],mkH [(2,⟨0,50,1,1,bu a⟩),(3,⟨1,50,1,1,bu a⟩)],nx,0⟩) (t.length) ⟨0,_,by omega,by omega,rfl⟩ ?_;rintro n1 st ⟨q,nx1,hk1,rfl,rfl⟩;by_cases hlt1:(q:Int)<(t.length:Int)
  ·refine awN ?_;simp only [F97,seval,bu,hlt0,hlt1,hat,bD];repeat refine ob ?_
   refine awT ?_;refine awK ?_;simp only [F97,seval];have hq2:q<t.length:=by omega
   have hatq:=aO eX t q hq2;refine awD (scT 0 16 (scq [32,35] .nil)) [0,0,0,0,0,0,0,0,0,0,0,0,0,0,0,0,0,0] ?_;simp only [F97,seval,bu,hlt0,hlt1,hat,bD,hatq,bT,decide_true,Bool.not_true,BEq.rfl];repeat refine ob ?_
   refine ⟨_,(Ky t[q]),rfl,?_⟩;try simp only [ak,F97,seval,bu,hlt0,hlt1,hat,bD,hatq,bT,decide_true,Bool.not_true,BEq.rfl]
   repeat refine ob ?_
   refine awF ?_;refine awK ?_;simp only [F97,seval];refine awN ?_;simp only [F97,seval,bu,hlt0,hlt1];repeat refine ob ?_
   repeat refine ob ?_
   refine ⟨_,aI [2,3,5,6] [2,3],t.length-(q+1),by omega,q+1,?na10,by omega,rfl,?st10⟩;case st10=>(simp only [F97,seval];first|rfl|(simp;done))
  refine awN ?_;simp only [F97,seval,bu,hlt0,hlt1,hat,bD];repeat refine ob ?_
  refine awF ?_;refine awQ ?_;simp only [F97,seval];refine awN ?_;simp only [F97,seval,bu,hlt0,hlt1];repeat refine ob ?_
  repeat refine ob ?_
  refine ⟨_,aI [2,3,5] [2,3],a.length-(k+1),by omega,k+1,?na13,by omega,rfl,?st13⟩;case st13=>(simp only [F97,seval];first|rfl|(simp;done))
 refine awN ?_;simp only [F97,seval,bu,hlt0];repeat refine ob ?_
 refine awF ?_;refine awQ ?_;simp only [F97,seval];refine awN ?_;simp only [F97,seval,bu,hlt0];repeat refine ob ?_
 refine awX ?_;(first|(simp only [F97,seval,bu,hlt0];done)|(simp only [F97,seval,bu];first|(simp [hlt0];done)))
def F98:=And.intro zS (And.intro IY (And.intro Gc (And.intro IZ (And.intro Ep (And.intro I0 (And.intro tu (And.intro Ht (And.intro Gf (And.intro tv (And.intro Gg (And.intro Eu (pr))))))))))))
theorem F99:type_of%F98:=F98
theorem K7 (e:GEst) (he:e.claims.length<=1000000000000/\e.agrs.length<=1000000000000/\∀a∈e.agrs,a.length<=1000000000000/\∀t∈a,t.length<=1000000000000):aR prog 68 [.agg (aJ e),.agg (aJ e)] (one (.bool true)):=by
 have he1:=he.1;have he2:=he.2.1;refine aP func68 rfl (by decide) (N:=67) rfl (by simp) (R:=[.tmp 4]) rfl fun en k0=>?_
 refine awN ?_;simp only [F99,seval,aJ];repeat refine ob ?_
 have hq:=LH e.cash;have hqv:=LI e.cash;refine awR [] [0,0,0,0,0,0,26,26,26,26,26,26,26,0,0,44,44,44,44,44,44,44,0] ?_;simp only [F99,seval,aJ,hqv,decide_true,Bool.not_true,BEq.rfl];repeat refine ob ?_
 try refine ⟨hq,?_⟩
 repeat refine ob ?_
 refine awF ?_;refine awK ?_;simp only [F99,seval];refine awN ?_;simp only [F99,seval,aJ];repeat refine ob ?_
 refine aQ [2,3,5] [2,3] ?_;try simp only [ak,F99,seval,aJ]
 repeat' first|apply awS|apply awB
 refine aM (fun n st=>∃k nx,k<=e.claims.length/\n=e.claims.length-k/\st=⟨mkT [(2,.val (.one (.ptr 2 0 0))),(3,.val (.one (.ptr 3 1 0))),(5,one (.int .i64 k))],mkH [(2,⟨0,36,5,1,aJ e⟩),(3,⟨1,36,5,1,aJ e⟩)],nx,0⟩) (e.claims.length) ⟨0,_,by omega,by omega,rfl⟩ ?_;rintro n0 st ⟨k,nx0,hk0,rfl,rfl⟩;by_cases hlt0:(k:Int)<(e.claims.length:Int)
 ·refine awN ?_;simp only [F99,seval,aJ,hlt0];repeat refine ob ?_
  refine awT ?_;refine awK ?_;simp only [F99,seval];have hk2:k<e.claims.length:=by omega
  have hat:=aO cK e.claims k hk2;have hq:=L6 e.claims[k];have hqv:=L7 e.claims[k];refine awD (scT 0 11 .nil) [0,0,0,0,0,0,0,0,0,0,0] ?_;simp only [F99,seval,aJ,hlt0,hat,b0,hqv,decide_true,Bool.not_true,BEq.rfl];repeat refine ob ?_
  try refine ⟨hq,?_⟩
  repeat refine ob ?_
  refine awF ?_;refine awK ?_;simp only [F99,seval];refine awN ?_;simp only [F99,seval,aJ,hlt0];repeat refine ob ?_
  repeat refine ob ?_
  refine ⟨_,aI [2,3,5] [2,3],e.claims.length-(k+1),by omega,k+1,?na7,by omega,rfl,?st7⟩;case st7=>(simp only [F99,seval];first|rfl|(simp;done))
 refine awN ?_;simp only [F99,seval,aJ,hlt0];repeat refine ob ?_
 refine awF ?_;refine awQ ?_;simp only [F99,seval];refine awN ?_;simp only [F99,seval,aJ,hlt0];repeat refine ob ?_
 refine aQ [2,3,6] [2,3] ?_;try simp only [ak,F99,seval,aJ,hlt0]
 repeat' first|apply awS|apply awB
 refine aM (fun n st=>∃q nx,q<=e.agrs.length/\n=e.agrs.length-q/\st=⟨mkT [(2,.val (.one (.ptr 2 0 0))),(3,.val (.one (.ptr 3 1 0))),(6,one (.int .i64 q))],mkH [(2,⟨0,36,5,1,aJ e⟩),(3,⟨1,36,5,1,aJ e⟩)],nx,0⟩) (e.agrs.length) ⟨0,_,by omega,by omega,rfl⟩ ?_;rintro n1 st ⟨q,nx1,hk1,rfl,rfl⟩;by_cases hlt1:(q:Int)<(e.agrs.length:Int)
 ·refine awN ?_;simp only [F99,seval,aJ,hlt0,hlt1];repeat refine ob ?_
  refine awT ?_;refine awK ?_;simp only [F99,seval];have hq2:q<e.agrs.length:=by omega
  have hatq:=aO gI e.agrs q hq2;rw [Nat.mul_one] at hatq;have hX:=K6 e.agrs[q] (he.2.2 _ (List.getElem_mem hq2));refine awD (scT 0 10 (scq [20,23] .nil)) [0,0,0,0,0,0,0,0,0,0,0,0] ?_;simp only [F99,seval,aJ,hlt0,hlt1,hatq,bu,ab bF,decide_true,Bool.not_true,BEq.rfl];repeat refine ob ?_
  refine ⟨_,hX,rfl,?_⟩;try simp only [ak,F99,seval,aJ,hlt0,hlt1,hatq,bu,ab bF,decide_true,Bool.not_true,BEq.rfl]
  repeat refine ob ?_
  refine awF ?_;refine awK ?_;simp only [F99,seval];refine awN ?_;simp only [F99,seval,aJ,hlt0,hlt1];repeat refine ob ?_
  repeat refine ob ?_
  refine ⟨_,aI [2,3,6] [2,3],e.agrs.length-(q+1),by omega,q+1,?na13,by omega,rfl,?st13⟩;case st13=>(simp only [F99,seval];first|rfl|(simp;done))
 refine awN ?_;simp only [F99,seval,aJ,hlt0,hlt1];repeat refine ob ?_
 refine awF ?_;refine awQ ?_;simp only [F99,seval];refine awN ?_;simp only [F99,seval,aJ,hlt0,hlt1];repeat refine ob ?_
 refine awX ?_;(first|(simp only [F99,seval,aJ,hlt0,hlt1];done)|(simp only [F99,seval,aJ];first|(simp [hlt0,hlt1];done)))
def sgE (e:GEst):Prop:=e.claims.length<=1000000000000/\e.agrs.length<=1000000000000/\∀a∈e.agrs,a.length<=1000000000000/\∀t∈a,t.length<=1000000000000
def sgG (g:GGrp):Prop:=g.ests.length<=1000000000000/\(∀e∈g.ests,sgE e)/\g.debts.length<=1000000000000/\∀d∈g.debts,d.legs.length<=1000000000000
def IA:=And.intro zS (And.intro pt (And.intro Gd (And.intro ll (And.intro CF (And.intro vh (And.intro Ge (And.intro BK (And.intro AY (And.intro Gj (And.intro mN (And.intro pq (And.intro CH (pr)))))))))))))
theorem qw:type_of%IA:=IA
theorem JZ (g:GGrp) (hg:sgG g):aR prog 23 [.agg (am g),.agg (am g)] (one (.bool true)):=by
 have hg1:=hg.1;have hg2:=hg.2.2.1;refine aP func23 rfl (by decide) (N:=78) rfl (by simp) (R:=[.tmp 4]) rfl fun en k0=>?_
 refine awN ?_;simp only [qw,seval,am];repeat refine ob ?_
 refine awR [] [0,0,0,0,0,0,0,0,30,30,30,30,30,30,30,0] ?_;simp only [qw,seval,am,decide_true,Bool.not_true,BEq.rfl];repeat refine ob ?_
 refine awF ?_;refine awK ?_;simp only [qw,seval];refine awN ?_;simp only [qw,seval,am];repeat refine ob ?_
 refine aQ [2,3,5] [2,3] ?_;try simp only [ak,qw,seval,am]
 repeat' first|apply awS|apply awB
 refine aM (fun n st=>∃k nx,k<=g.ests.length/\n=g.ests.length-k/\st=⟨mkT [(2,.val (.one (.ptr 2 0 0))),(3,.val (.one (.ptr 3 1 0))),(5,one (.int .i64 k))],mkH [(2,⟨0,28,2,1,am g⟩),(3,⟨1,28,2,1,am g⟩)],nx,0⟩) (g.ests.length) ⟨0,_,by omega,by omega,rfl⟩ ?_;rintro n0 st ⟨k,nx0,hk0,rfl,rfl⟩;by_cases hlt0:(k:Int)<(g.ests.length:Int)
 ·refine awN ?_;simp only [qw,seval,am,hlt0];repeat refine ob ?_
  refine awT ?_;refine awK ?_;simp only [qw,seval];have hk2:k<g.ests.length:=by omega
  have hat:=aO i4 g.ests k hk2;have hX:=K7 g.ests[k] (hg.2.1 _ (List.getElem_mem hk2));refine awD (scT 0 10 (scq [20,23] .nil)) [0,0,0,0,0,0,0,0,0,0,0,0] ?_;simp only [qw,seval,am,hlt0,hat,aJ,ab ao,ab au,decide_true,Bool.not_true,BEq.rfl];repeat refine ob ?_
  refine ⟨_,hX,(by first|rfl|simp [aU,aD,al,ax,A1.cells,ab ao,ab au]),?_⟩;try simp only [ak,qw,seval,am,hlt0,hat,aJ,ab ao,ab au,decide_true,Bool.not_true,BEq.rfl]
  repeat refine ob ?_
  refine awF ?_;refine awK ?_;simp only [qw,seval];refine awN ?_;simp only [qw,seval,am,hlt0];repeat refine ob ?_
  repeat refine ob ?_
  refine ⟨_,aI [2,3,5] [2,3],g.ests.length-(k+1),by omega,k+1,?na7,by omega,rfl,?st7⟩;case st7=>(simp only [qw,seval];first|rfl|(simp;done))
 refine awN ?_;simp only [qw,seval,am,hlt0];repeat refine ob ?_
 refine awF ?_;refine awQ ?_;simp only [qw,seval];refine awN ?_;simp only [qw,seval,am,hlt0];repeat refine ob ?_
 refine aQ [2,3,6] [2,3] ?_;try simp only [ak,qw,seval,am,hlt0]
 repeat' first|apply awS|apply awB
 refine aM (fun n st=>∃q nx,q<=g.debts.length/\n=g.debts.length-q/\st=⟨mkT [(2,.val (.one (.ptr 2 0 0))),(3,.val (.one (.ptr 3 1 0))),(6,one (.int .i64 q))],mkH [(2,⟨0,28,2,1,am g⟩),(3,⟨1,28,2,1,am g⟩)],nx,0⟩) (g.debts.length) ⟨0,_,by omega,by omega,rfl⟩ ?_;rintro n1 st ⟨q,nx1,hk1,rfl,rfl⟩;by_cases hlt1:(q:Int)<(g.debts.length:Int)
 ·refine awN ?_;simp only [qw,seval,am,hlt0,hlt1];repeat refine ob ?_
  refine awT ?_;refine awK ?_;simp only [qw,seval];have hq2:q<g.debts.length:=by omega
  have hatq:=aO gb g.debts q hq2;have hq:=LH g.debts[q].whole;have hqv:=LI g.debts[q].whole;have hX:=Kw g.debts[q].legs (hg.2.2.2 _ (List.getElem_mem hq2));refine awD (scT 0 26 (scq [52,55,57] .nil)) [0,0,0,0,0,0,0,0,0,0,0,0,0,0,126,126,126,126,126,126,126,126,126,126,126,126,126,126,0] ?_;simp only [qw,seval,am,hlt0,hlt1,hatq,fu,hqv,ab i5,decide_true,Bool.not_true,BEq.rfl];repeat refine ob ?_
  try refine ⟨hq,?_⟩
  repeat refine ob ?_
  refine ⟨_,hX,(by first|rfl|simp [aU,aD,al,ax,A1.cells,ab i5]),?_⟩;try simp only [ak,qw,seval,hqv,hatq,fu]
  repeat refine ob ?_
  refine awF ?_;refine awK ?_;simp only [qw,seval];refine awN ?_;simp only [qw,seval,am,hlt0,hlt1];repeat refine ob ?_
  repeat refine ob ?_
  refine ⟨_,aI [2,3,6] [2,3],g.debts.length-(q+1),by omega,q+1,?na13,by omega,rfl,?st13⟩;case st13=>(simp only [qw,seval];first|rfl|(simp;done))
 refine awN ?_;simp only [qw,seval,am,hlt0,hlt1];repeat refine ob ?_
 refine awF ?_;refine awQ ?_;simp only [qw,seval];refine awN ?_;simp only [qw,seval,am,hlt0,hlt1];repeat refine ob ?_
 refine awX ?_;(first|(simp only [qw,seval,am,hlt0,hlt1];done)|(simp only [qw,seval,am];first|(simp [hlt0,hlt1];done)))
def IB:=And.intro zS (And.intro Lf (And.intro Ew (And.intro CI (And.intro Hu (And.intro CJ (And.intro Hv (And.intro Gk (And.intro tz (Gl)))))))))
theorem ng:type_of%IB:=IB
theorem Jy (l:List GDisp) (hl:l.length<=1000000000000/\∀d∈l,d.opts.length<=1000000000000):aR prog 26 [.one (.sh 3 l.length (aA de l)),.one (.sh 3 l.length (aA de l))] (one (.bool true)):=by
 have hl1:=hl.1;refine aP func26 rfl (by decide) (N:=71) rfl (by simp) (R:=[.tmp 4]) rfl fun en k0=>?_
 refine awN ?_;simp only [ng,seval];repeat refine ob ?_
 refine awN ?_;simp only [ng,seval,decide_true,Bool.not_true,BEq.rfl];repeat refine ob ?_
 refine awF ?_;refine awK ?_;simp only [ng,seval];refine awN ?_;simp only [ng,seval];repeat refine ob ?_
 refine aQ [0,1,5] [] ?_;try simp only [ak,ng,seval]
 repeat' first|apply awS|apply awB
 refine aM (fun n st=>∃k nx,k<=l.length/\n=l.length-k/\st=⟨mkT [(0,.val (.one (.sh 3 l.length (aA de l)))),(1,.val (.one (.sh 3 l.length (aA de l)))),(5,one (.int .i64 k))],mkH [],nx,0⟩) (l.length) ⟨0,_,by omega,by omega,rfl⟩ ?_;rintro n0 st ⟨k,nx0,hk0,rfl,rfl⟩;by_cases hlt0:(k:Int)<(l.length:Int)
 ·refine awN ?_;simp only [ng,seval,hlt0];repeat refine ob ?_
  refine awT ?_;refine awK ?_;simp only [ng,seval];have hk2:k<l.length:=by omega
  have hat:=aO gB l k hk2;obtain ⟨d,hd⟩:∃d,l[k]=d:=⟨_,rfl⟩;rw [hd] at hat;have hdo:=hl.2 d (hd▸List.getElem_mem hk2);have hq:=Jl (j1 d) (j1 d);have hqv:=Jm (j1 d) (j1 d);simp only [j1] at hq hqv;refine awD (scT 0 26 .nil) [0,0,0,0,0,0,0,0,0,0,0,0,60,60,60,60,60,60,60,60,60,60,60,60,60,0] ?_;simp only [ng,seval,hlt0,hat,de,hqv,decide_true,Bool.not_true,BEq.rfl];repeat refine ob ?_
  try refine ⟨hq,?_⟩
  repeat refine ob ?_
  refine awF ?_;refine awK ?_;simp only [ng,seval];refine awN ?_;simp only [ng,seval,hlt0];repeat refine ob ?_
  refine aQ [0,1,5,6] [] ?_;try simp only [ak,ng,seval,hlt0]
  repeat' first|apply awS|apply awB
  refine aM (fun n st=>∃q nx,q<=d.opts.length/\n=d.opts.length-q/\st=⟨mkT [(0,.val (.one (.sh 3 l.length (aA de l)))),(1,.val (.one (.sh 3 l.length (aA de l)))),(5,one (.int .i64 k)),(6,one (.int .i64 q))],mkH [],nx,0⟩) (d.opts.length) ⟨0,_,by omega,by omega,rfl⟩ ?_;rintro n1 st ⟨q,nx1,hk1,rfl,rfl⟩;by_cases hlt1:(q:Int)<(d.opts.length:Int)
  ·refine awN ?_;simp only [ng,seval,hlt0,hlt1,hat,de];repeat refine ob ?_
   refine awT ?_;refine awK ?_;simp only [ng,seval];have hq2:q<d.opts.length:=by omega
   have hatq:=aO lf d.opts q hq2;have hq:=Nm d.opts[q];have hqv:=Nn d.opts[q];refine awD (scT 0 17 .nil) [0,0,0,0,0,0,0,0,0,0,0,0,0,0,0,0,0] ?_;simp only [ng,seval,hlt0,hlt1,hat,de,hatq,jU,hqv,decide_true,Bool.not_true,BEq.rfl];repeat refine ob ?_
   try refine ⟨hq,?_⟩
   repeat refine ob ?_
   refine awF ?_;refine awK ?_;simp only [ng,seval];refine awN ?_;simp only [ng,seval,hlt0,hlt1];repeat refine ob ?_
   repeat refine ob ?_
   refine ⟨_,aI [0,1,5,6] [],d.opts.length-(q+1),by omega,q+1,?na10,by omega,rfl,?st10⟩;case st10=>(simp only [ng,seval];first|rfl|(simp;done))
  refine awN ?_;simp only [ng,seval,hlt0,hlt1,hat,de];repeat refine ob ?_
  refine awF ?_;refine awQ ?_;simp only [ng,seval];refine awN ?_;simp only [ng,seval,hlt0,hlt1];repeat refine ob ?_
  repeat refine ob ?_
  refine ⟨_,aI [0,1,5] [],l.length-(k+1),by omega,k+1,?na13,by omega,rfl,?st13⟩;case st13=>(simp only [ng,seval];first|rfl|(simp;done))
 refine awN ?_;simp only [ng,seval,hlt0];repeat refine ob ?_
 refine awF ?_;refine awQ ?_;simp only [ng,seval];refine awN ?_;simp only [ng,seval,hlt0];repeat refine ob ?_
 refine awX ?_;(first|(simp only [ng,seval,hlt0];done)|(simp only [ng,seval];first|(simp [hlt0];done)))
end Go.Proofs.YtokmkopihhnggaaGreatDoor
