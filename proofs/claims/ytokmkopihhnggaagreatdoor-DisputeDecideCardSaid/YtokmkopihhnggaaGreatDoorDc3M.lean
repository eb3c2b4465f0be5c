/- Arguments of the laws about disputes, opened; few; awake; DisputeCheck's own function. -/
import Derived.Test.YtokmkopihhnggaaGreatDoorDc2M
import Derived.Test.YtokmkopihhnggaaGreatDoorBl5M
import Derived.Test.YtokmkopihhnggaaGreatDoorPl3M
import Derived.Test.YtokmkopihhnggaaGreatDoorCountM
import Derived.Test.YtokmkopihhnggaaGreatDoorCs4M
import Derived.Test.YtokmkopihhnggaaGreatDoorChoM
set_option linter.unusedVariables false
set_option maxHeartbeats 4000000
set_option maxRecDepth 100000
set_option linter.unusedSimpArgs false
set_option linter.defProp false
namespace Go.Proofs.YtokmkopihhnggaaGreatDoor
open Go Go.RowKit Go.ChangeShapes Go.WideShapes Go.ChangeAt Go.Proofs.Tryz
theorem L8:aR prog 18 [] (one (.bool true)):=
 bj (ch func18 (by decide) rfl) [] (.bool true) L0
end Go.Proofs.YtokmkopihhnggaaGreatDoor
namespace Go.Proofs.YtokmkopihhnggaaGreatDoor
open Go Go.RowKit Go.Proofs.Tryz
def IC:=And.intro zS (And.intro Ez (And.intro HW (And.intro Hr (And.intro H7 (And.intro CI (And.intro Er (And.intro Gp (And.intro tw (And.intro tz (And.intro CL (And.intro H9 (And.intro Ie (And.intro tf4 (And.intro I3 (And.intro EC (And.intro A0 (CG)))))))))))))))))
theorem br:type_of%IC:=IC
theorem La (g:GGrp) (list:List N4) (m:Nat) (H:Hp) (ny:Nat) (hng:g.ests.length<=1000000) (hcl:∀e∈g.ests,e.claims.length<=1000000) (hln:list.length<=9223372036854775807) (hls:∀x∈list,Kp x) (hm:m<=1000) (hbH:∀y B,H y=some B->y<1000):
  cT prog 19 [.agg (am g),.one (.sh 4 list.length (aA cN4 list)),.one (.lit (.int .i64 m))] H ny
   (fun res H' _=>∃l all s,l.length=min (min list.length m) (spE g.ests 0 []).length/\(l.map j1++all).Perm (spE g.ests 0 [])/\(∀d∈l,okD d)/\res= .val (.one (.own 1044 s l.length 3))/\H'=bZ H [(1044,⟨s,109,3,l.length,aA de l⟩)]):=by
 refine cF 1000 func19 rfl (by decide) (N:=56) rfl (by simp) (Rl:=[.tmp 6]) rfl fun en k0=>?_
 refine awN ?_;simp only [br,seval,am];repeat refine ob ?_
 refine awN ?_;simp only [br,seval,am];repeat refine ob ?_
 have hSp:=Nf g hng hcl;have hsl9:=LE g.ests 0 [] hcl;rw [List.length_nil] at hsl9;refine awN ?_;simp only [br,seval,am,am,ab b5,ab aN];repeat refine ob ?_
 refine ⟨_,hSp,(by first|rfl|simp [aU,aD,al,ax,A1.cells,am,ab b5,ab aN,ab i5]),?_⟩;try simp only [ak,br,seval,am,am,ab b5,ab aN]
 repeat refine ob ?_
 refine awN ?_;simp only [br,seval,am];repeat refine ob ?_
 refine gS 7 1044 109 3 (by decide) (by rfl) ?_;refine eC H [2,7,8,14,15,16] [1044] (by intro y B h;right;have h9:=hbH y B h;simp only [aB];(repeat rw [if_neg (by omega)]);exact h) ?_;try simp only [ak,br,seval,am]
 repeat' first|apply awS|apply awB
 refine aM (fun n st=>∃j out all s nx,j<=list.length/\n=list.length-j/\out.length=j/\j<=m/\(out.map j1++all).Perm (spE g.ests 0 [])/\(∀d∈out,okD d)/\st=⟨mkT [(2,one (.int .i64 m)),(7,.val (.one (.own 1044 s out.length 3))),(8,.val (.one (.sh 2 all.length (aA gp all)))),(14,.val (.one (.sh 4 list.length (aA cN4 list)))),(15,one (.int .i64 list.length)),(16,one (.int .i64 j))],bZ H [(1044,⟨s,109,3,out.length,aA de out⟩)],nx,1000⟩) (list.length) ⟨0,[],spE g.ests 0 [],_,_,by omega,by omega,rfl,by omega,by simp,by simp,rfl⟩ ?_;rintro n0 st ⟨j,out,all,s,nx0,hj0,rfl,hoj,hjm,hperm,hok,rfl⟩;by_cases hlt0:(j:Int)<(list.length:Int)
 ·have hj:j<list.length:=by omega
  have hat0:=aO Km list j hj;obtain ⟨x,hxj⟩:∃x,list[j]=x:=⟨_,rfl⟩;have hx:Kp x:=hxj▸hls _ (List.getElem_mem hj);rw [hxj] at hat0;have hxa:x.a<65536:=hx.1;refine awN ?_;simp only [br,seval,am,hlt0,hat0];repeat refine ob ?_
  refine awT ?_;refine awK ?_;simp only [br,seval];refine awN ?_;simp only [br,seval,am,hlt0,hat0,cN4];repeat refine ob ?_
  by_cases h1:(m:Int)<=(out.length:Int)
  ·refine awR [] [0,0,0,0,0,50,50,50,0] ?_;simp only [br,seval,am,hlt0,hat0,h1];repeat refine ob ?_
   refine awT ?_;refine awQ ?_;simp only [br,seval];refine awN ?_;simp only [br,seval,am,hlt0,hat0,h1];repeat refine ob ?_
   refine eC H [6] [1044] (by intro y B h;right;have h9:=hbH y B h;simp only [aB];(repeat rw [if_neg (by omega)]);exact h) ?_;simp only [br,seval];refine awX ?_;simp only [br,seval];have hpl:=hperm.length_eq;rw [List.length_append,List.length_map] at hpl;exact ⟨out,all,s,by omega,hperm,hok,rfl,rfl⟩
  by_cases h2:(all.length:Int)=0
  ·refine awR [] [0,0,0,0,0,50,50,50,0] ?_;simp only [br,seval,am,hlt0,hat0,h1,h2];repeat refine ob ?_
   refine awT ?_;refine awQ ?_;simp only [br,seval];refine awN ?_;simp only [br,seval,am,hlt0,hat0,h1,h2];repeat refine ob ?_
   refine eC H [6] [1044] (by intro y B h;right;have h9:=hbH y B h;simp only [aB];(repeat rw [if_neg (by omega)]);exact h) ?_;simp only [br,seval];refine awX ?_;simp only [br,seval];have hpl:=hperm.length_eq;rw [List.length_append,List.length_map] at hpl;exact ⟨out,all,s,by omega,hperm,hok,rfl,rfl⟩
  refine awR [] [0,0,0,0,0,50,50,50,0] ?_;simp only [br,seval,am,hlt0,hat0,h1,h2];repeat refine ob ?_
  refine awF ?_;refine awK ?_;simp only [br,seval];have hpl:=hperm.length_eq;rw [List.length_append,List.length_map] at hpl;have w1:=JA x.a all.length;have hkl:x.a%all.length<all.length:=Nat.mod_lt _ (by omega);obtain ⟨k,hk⟩:∃k,k=x.a%all.length:=⟨_,rfl⟩;rw [←hk] at w1 hkl;refine awN ?_;simp only [br,seval,am,hlt0,hat0,h1,h2,cN4,w1];repeat refine ob ?_
  obtain ⟨p,hpk⟩:∃p,all[k]=p:=⟨_,rfl⟩;have hatl:=aO gt all k hkl;rw [hpk] at hatl;have hlen1:=bo gB out;have hal:(aA gp all).length=all.length*2:=bo gt all;repeat' first|apply awS|apply awB
  refine cb [41] (by kernel_rfl) (.cons 0 true (.cons 1 true (.cons 2 true (.cons 3 true (.cons 5 true (.two 4 6 (.cons 6 false (.cons 7 true (.cons 8 false (.cons 9 false (.cons 10 true .nil))))) (.cons 4 true (.cons 7 true (.cons 8 false (.cons 9 false (.cons 10 true .nil))))))))))) (by kernel_rfl) (gs:=[none,none,none,none,none,none,none,none,none,none,none]) (by kernel_rfl) (by simp only [zT,seval];rfl) (by decide) ?_;simp only [br,seval,am,hlt0,hat0,h1,h2,hatl,gp,cN4,(id SD)];repeat refine ob ?_
  refine ⟨?_,?_⟩
  ·repeat refine ob ?_
   refine ⟨_,LB x hx _ _ (fun y B hB=>?_),?_⟩
   ·simp only [aB] at hB;repeat (split at hB;· omega)
    have:=hbH y B hB;omega
   rintro res H' nx' ⟨l,so1,hl1,hl3,hlg,rfl,rfl⟩;simp only [br,seval,(id SD),hatl,gp,cN4];repeat refine ob ?_
   refine dp 2066 1044 (out.length*3+2) (by rfl) (by rfl) (by (try simp only [br,seval]);rw [List.getElem?_append_right (by rw [bo gB];omega),bo gB,Nat.add_sub_cancel_left];rfl) (by decide) (by show (4:Nat)≠0;decide) (by show (3:Nat)≠0;decide) rfl ?_;have hst9:∀q9:List C,q9.length=3->∀y,(aA de out++q9).set (out.length*3+2) y=aA de out++q9.set 2 y:=fun q9 h9 y=>by rw [List.set_append_right _ _ (by rw [bo gB];omega),bo gB,Nat.add_sub_cancel_left]
   simp only [br,seval];rw [hst9 _ (by rfl)];simp only [br,seval,List.set_cons_succ,List.set_cons_zero];have hk1:((k:Int)+1).toNat=k+1:=by omega
   have hft:=AS gt all k;have hfd:=rM gt all (k+1);have hfk:List.take ((all.length-(k+1))*2) (aA gp (all.drop (k+1)))=aA gp (all.drop (k+1)):=List.take_of_length_le (by rw [bo gt,List.length_drop];omega);refine awD (scq [1,3,5] (scT 4 4 (scq [6,16,19] .nil))) [0,0,0,0,0,0,0,0,0,0] ?_;simp only [br,seval,am,hlt0,hat0,h1,h2,hk1,hft,hfd,hfk,Nat.sub_zero];repeat refine ob ?_
   refine gT (t:=8) (by rfl) (by rfl) (by decide) (by rfl) ?_;simp only [br,seval];have hl8:k+(all.length-(k+1))=(all.take k++all.drop (k+1)).length:=by simp;omega
   rw [show aA gp (all.take k)++aA gp (all.drop (k+1))=aA gp (all.take k++all.drop (k+1)) by rw [fQ]];rw [hl8];obtain ⟨al2,hal2⟩:∃a,a=all.take k++all.drop (k+1):=⟨_,rfl⟩;rw [←hal2];refine awN ?_;simp only [br,seval,am,hlt0,hat0,h1,h2];repeat refine ob ?_
   repeat refine ob ?_
   have hperm2:((out++[(⟨p.1,p.2,l⟩:GDisp)]).map j1++al2).Perm (spE g.ests 0 []):=by
    rw [hal2];refine List.Perm.trans ?_ hperm;rw [List.map_append,List.append_assoc];refine List.Perm.append_left _ ?_;have h1:all=all.take k++(p::all.drop (k+1)):=by rw [←hpk,←List.drop_eq_getElem_cons hkl,List.take_append_drop]
    show (p::(all.take k++all.drop (k+1))).Perm all;conv=>rhs;rw [h1]
    exact List.perm_middle.symm
   have hokd:∀d∈(out++[(⟨p.1,p.2,l⟩:GDisp)]),okD d:=by
    intro d hd;rcases List.mem_append.1 hd with h|h
    ·exact hok d h
    obtain rfl:=List.mem_singleton.1 h;exact ⟨hl1,hl3,hlg⟩
   refine ⟨_,fP H [2,7,8,14,15,16] [1044] (by intro y B h;right;have h9:=hbH y B h;simp only [aB];(repeat rw [if_neg (by omega)]);exact h),list.length-(j+1),by omega,j+1,(out++[(⟨p.1,p.2,l⟩:GDisp)]),al2,?ss18,?na18,by omega,rfl,by simp;omega,by omega,hperm2,hokd,?st18⟩;case st18=>(simp only [br,seval,a7,de,List.length_append,List.length_cons,List.length_nil];first|rfl|(simp;done))
  repeat refine ob ?_
  refine ⟨_,LB x hx _ _ (fun y B hB=>?_),?_⟩
  ·simp only [aB] at hB;repeat (split at hB;· omega)
   have:=hbH y B hB;omega
  rintro res H' nx' ⟨l,so1,hl1,hl3,hlg,rfl,rfl⟩;simp only [br,seval,(id SD),hatl,gp,cN4];repeat refine ob ?_
  refine dp 2066 1044 (out.length*3+2) (by rfl) (by rfl) (by (try simp only [br,seval]);rw [List.getElem?_append_right (by rw [bo gB];omega),bo gB,Nat.add_sub_cancel_left];rfl) (by decide) (by show (4:Nat)≠0;decide) (by show (3:Nat)≠0;decide) rfl ?_;have hst9:∀q9:List C,q9.length=3->∀y,(aA de out++q9).set (out.length*3+2) y=aA de out++q9.set 2 y:=fun q9 h9 y=>by rw [List.set_append_right _ _ (by rw [bo gB];omega),bo gB,Nat.add_sub_cancel_left]
  simp only [br,seval];rw [hst9 _ (by rfl)];simp only [br,seval,List.set_cons_succ,List.set_cons_zero];have hk1:((k:Int)+1).toNat=k+1:=by omega
  have hft:=AS gt all k;have hfd:=rM gt all (k+1);have hfk:List.take ((all.length-(k+1))*2) (aA gp (all.drop (k+1)))=aA gp (all.drop (k+1)):=List.take_of_length_le (by rw [bo gt,List.length_drop];omega);refine awD (scq [1,3,5] (scT 4 4 (scq [6,16,19] .nil))) [0,0,0,0,0,0,0,0,0,0] ?_;simp only [br,seval,am,hlt0,hat0,h1,h2,hk1,hft,hfd,hfk,Nat.sub_zero];repeat refine ob ?_
  refine gT (t:=8) (by rfl) (by rfl) (by decide) (by rfl) ?_;simp only [br,seval];have hl8:k+(all.length-(k+1))=(all.take k++all.drop (k+1)).length:=by simp;omega
  rw [show aA gp (all.take k)++aA gp (all.drop (k+1))=aA gp (all.take k++all.drop (k+1)) by rw [fQ]];rw [hl8];obtain ⟨al2,hal2⟩:∃a,a=all.take k++all.drop (k+1):=⟨_,rfl⟩;rw [←hal2];refine awN ?_;simp only [br,seval,am,hlt0,hat0,h1,h2];repeat refine ob ?_
  repeat refine ob ?_
  have hperm2:((out++[(⟨p.1,p.2,l⟩:GDisp)]).map j1++al2).Perm (spE g.ests 0 []):=by
   rw [hal2];refine List.Perm.trans ?_ hperm;rw [List.map_append,List.append_assoc];refine List.Perm.append_left _ ?_;have h1:all=all.take k++(p::all.drop (k+1)):=by rw [←hpk,←List.drop_eq_getElem_cons hkl,List.take_append_drop]
   show (p::(all.take k++all.drop (k+1))).Perm all;conv=>rhs;rw [h1]
   exact List.perm_middle.symm
  have hokd:∀d∈(out++[(⟨p.1,p.2,l⟩:GDisp)]),okD d:=by
   intro d hd;rcases List.mem_append.1 hd with h|h
   ·exact hok d h
   obtain rfl:=List.mem_singleton.1 h;exact ⟨hl1,hl3,hlg⟩
  refine ⟨_,fP H [2,7,8,14,15,16] [1044] (by intro y B h;right;have h9:=hbH y B h;simp only [aB];(repeat rw [if_neg (by omega)]);exact h),list.length-(j+1),by omega,j+1,(out++[(⟨p.1,p.2,l⟩:GDisp)]),al2,?ss21,?na21,by omega,rfl,by simp;omega,by omega,hperm2,hokd,?st21⟩;case st21=>(simp only [br,seval,a7,de,List.length_append,List.length_cons,List.length_nil];first|rfl|(simp;done))
 refine awN ?_;simp only [br,seval,am,hlt0];repeat refine ob ?_
 refine awF ?_;refine awQ ?_;simp only [br,seval];refine awN ?_;simp only [br,seval,am,hlt0];repeat refine ob ?_
 refine eC H [6] [1044] (by intro y B h;right;have h9:=hbH y B h;simp only [aB];(repeat rw [if_neg (by omega)]);exact h) ?_;simp only [br,seval];refine awX ?_;simp only [br,seval];have hpl:=hperm.length_eq;rw [List.length_append,List.length_map] at hpl;exact ⟨out,all,s,by omega,hperm,hok,rfl,rfl⟩
end Go.Proofs.YtokmkopihhnggaaGreatDoor
namespace Go.Proofs.YtokmkopihhnggaaGreatDoor
open Go Go.RowKit Go.ChangeShapes Go.WideShapes Go.ChangeAt Go.Proofs.Tryz
def cI8 (n:Int):List C:=[.lit (.int .i8 n)]
theorem Kd:eI prog 24 (rC cI8 (fun n=> -128<=n/\n<=127)):=by
 intro H enc W fuel cs x h;obtain ⟨n,rfl,_,hw⟩:=DataW.trod_int underlying24 h;have: -128<=n/\n<=127:=by simpa [Lit.wf,IntKind.min,IntKind.max,IntKind.signed,IntKind.bits] using hw
 exact ⟨n,⟨⟨rfl,rfl⟩,trivial⟩,this⟩
def ID:=And.intro zS (And.intro tw (And.intro If (And.intro tf4 (Fl))))
theorem G3:type_of%ID:=ID
theorem Oa (n:Nat) (cash:List Nat) (list ds:List N4) (pools debts:List N3) (i op9:Int) (hn:n<256) (hcs:qU (·<65536) cash) (hls:qU Kp list) (hds:qU Kp ds) (hps:qU LR pools) (hdb:qU LR debts) (hi: -128<=i/\i<=127) (ho: -128<=op9/\op9<=127):aR prog 5 [.one (.lit (.int .u8 n)),.one (.sh 1 cash.length (aA Kl cash)),.one (.sh 4 list.length (aA cN4 list)),.one (.sh 4 ds.length (aA cN4 ds)),.one (.sh 3 pools.length (aA cN3 pools)),.one (.sh 3 debts.length (aA cN3 debts)),.one (.lit (.int .i8 i)),.one (.lit (.int .i8 op9))] (one (.bool true)):=by
 have hc1:cash.length<=9223372036854775807:=Nat.le_trans hcs.1 (by decide);have hl1:list.length<=9223372036854775807:=Nat.le_trans hls.1 (by decide);have hd1:ds.length<=9223372036854775807:=Nat.le_trans hds.1 (by decide);have hp1:pools.length<=9223372036854775807:=Nat.le_trans hps.1 (by decide);have hb1:debts.length<=9223372036854775807:=Nat.le_trans hdb.1 (by decide);refine aP func5 rfl (by decide) (N:=72) rfl (by simp) (R:=[.tmp 16]) rfl fun en k0=>?_
 refine awN ?_;simp only [G3,seval,am];repeat refine ob ?_
 have hGR:=Nb n cash list pools debts hn hcs.2 hls.2 hps.2 hdb.2 hc1 hl1 hp1 hb1;have hxg:=NM n cash list pools debts;have hok2:=(LA n cash list pools debts).1;refine awN ?_;simp only [G3,seval,am,ab J7,ab KM,ab KN];repeat refine ob ?_
 refine ⟨_,hGR,(by first|rfl|simp [aU,aD,al,ax,A1.cells,am,ab b5,ab aN,ab eq,ab bg]),?_⟩;try simp only [ak,G3,seval,am,ab J7,ab KM,ab KN]
 repeat refine ob ?_
 generalize Kj n cash list pools debts=g at *
 have hgn:g.ests.length<=1000000:=by have:=hxg.1;omega
 have hgc:∀e∈g.ests,e.claims.length<=1000000:=fun e he=>by have:=(hxg.2.1 e he).1.1;omega
 have hsg:=N7 hxg;refine awR [33] [0,0,0,0] ?_;simp only [G3,seval,am,ab b5,ab aN,ab eq,ab bg];repeat refine ob ?_
 refine ⟨_,La g ds 5 _ _ hgn hgc hd1 hds.2 (by decide) (fun y B hB=>?_),?_⟩
 ·simp only [aB] at hB;repeat (split at hB;· omega)
  cases hB
 rintro res H' nxW ⟨l0,all,s,hln,hperm,hokd,rfl,rfl⟩;simp only [G3,seval];repeat refine ob ?_
 refine gT (t:=18) (by rfl) (by rfl) (by decide) (by rfl) ?_;simp only [G3,seval];have hcq:=NN (l:=l0) (by omega) hokd;have hA:=L3 g l0 i op9 (Nw hxg) (N6 hxg) hcq;have hB:=L4 g l0 i op9 (Nw hxg) hok2 hcq;rw [←Lq,←Ls] at hB;have hR:=NQ hsg (dcS (kR g) g l0) l0 ⟨by omega,fun d hd=>by have:=(hokd d hd).2.1;omega⟩ i op9;generalize dcG (dcS (kR g) g l0) g l0 i op9=R at *
 obtain ⟨g2,l2,e2⟩:=R;dsimp only at hA hB hR;have hS:=JZ g2 hR.1;have hD:=Jy l2 hR.2;have w1:IntKind.i64.wrap i=i:=sK ((El _).2 ⟨by omega,by omega⟩);have w2:IntKind.i64.wrap op9=op9:=sK ((El _).2 ⟨by omega,by omega⟩);refine awN ?_;simp only [G3,seval,am,ab b5,ab aN,ab eq,ab bg,w1,w2];repeat refine ob ?_
 refine ⟨_,hA,(by first|rfl|simp [aU,aD,al,ax,A1.cells,am,ab b5,ab aN,ab eq,ab bg]),?_⟩;try simp only [ak,G3,seval,am,ab b5,ab aN,ab eq,ab bg,w1,w2]
 repeat refine ob ?_
 refine awN ?_;simp only [G3,seval,am,ab b5,ab aN,ab eq,ab bg,w1,w2];repeat refine ob ?_
 refine ⟨_,hB,(by first|rfl|simp [aU,aD,al,ax,A1.cells,am,ab b5,ab aN,ab eq,ab bg]),?_⟩;try simp only [ak,G3,seval,am,ab b5,ab aN,ab eq,ab bg,w1,w2]
 repeat refine ob ?_
 refine awR [] [0,0,117,117,117,0,0,127,127,127,0,0,137,137,137,0,0] ?_;simp only [G3,seval,am,ab b5,ab aN,ab eq,ab bg,decide_true,BEq.rfl];repeat refine ob ?_
 refine ⟨_,L8,(by first|rfl|simp [aU,aD,al,ax,A1.cells,am,ab b5,ab aN,ab eq,ab bg]),?_⟩;try simp only [ak,G3,seval,am,ab b5,ab aN,ab eq,ab bg,decide_true,BEq.rfl]
 repeat refine ob ?_
 refine ⟨_,hS,(by first|rfl|simp [aU,aD,al,ax,A1.cells,am,ab b5,ab aN,ab eq,ab bg]),?_⟩;try simp only [ak,G3,seval,am,ab b5,ab aN,ab eq,ab bg,decide_true,BEq.rfl]
 repeat refine ob ?_
 refine ⟨_,hD,(by first|rfl|simp [aU,aD,al,ax,A1.cells,am,ab b5,ab aN,ab eq,ab bg]),?_⟩;try simp only [ak,G3,seval,am,ab b5,ab aN,ab eq,ab bg,decide_true,BEq.rfl]
 repeat refine ob ?_
 refine awX ?_;(first|(simp only [G3,seval,am];done)|(simp only [G3,seval,am];first|(simp [];done)))
theorem MW (v0 v1 v2 v3 v4 v5 v6 v7:Value) (n:Nat) (cash:List Nat) (list ds:List N4) (pools debts:List N3) (i op9:Int) (W:World) (o0:rC (fun n:Nat=>[.lit (.int .u8 n)]) (·<256) W (LT W.heap.size) [v0] n) (o1:rC (cSl 1 Kl) (qU (·<65536)) W (LT W.heap.size) [v1] cash) (o2:rC (cSl 4 cN4) (qU Kp) W (LT W.heap.size) [v2] list) (o3:rC (cSl 4 cN4) (qU Kp) W (LT W.heap.size) [v3] ds) (o4:rC (cSl 3 cN3) (qU LR) W (LT W.heap.size) [v4] pools) (o5:rC (cSl 3 cN3) (qU LR) W (LT W.heap.size) [v5] debts) (o6:rC cI8 (fun n=> -128<=n/\n<=127) W (LT W.heap.size) [v6] i) (o7:rC cI8 (fun n=> -128<=n/\n<=127) W (LT W.heap.size) [v7] op9):
  Calls prog 5 #[v0,v1,v2,v3,v4,v5,v6,v7] W fun e w'=>e= .returned (.bool true)/\Below W.heap.size W w':=by
 obtain ⟨h0,k0⟩:=pN o0 rfl;obtain ⟨h1,k1⟩:=pN o1 rfl;obtain ⟨h2,k2⟩:=pN o2 rfl;obtain ⟨h3,k3⟩:=pN o3 rfl;obtain ⟨h4,k4⟩:=pN o4 rfl;obtain ⟨h5,k5⟩:=pN o5 rfl;obtain ⟨h6,k6⟩:=pN o6 rfl;obtain ⟨h7,k7⟩:=pN o7 rfl;exact Ba (vs:=[v0,v1,v2,v3,v4,v5,v6,v7]) (Oa n cash list ds pools debts i op9 k0 k1 k2 k3 k4 k5 k6 k7) ⟨h0,h1,h2,h3,h4,h5,h6,h7,trivial⟩
end Go.Proofs.YtokmkopihhnggaaGreatDoor
