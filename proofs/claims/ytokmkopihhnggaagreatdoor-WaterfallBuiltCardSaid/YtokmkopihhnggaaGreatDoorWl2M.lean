/- The waterfall: parts added to tiers, amounts added to results, ladders paid; walked by the abstract machine. -/
import Derived.Test.YtokmkopihhnggaaGreatDoorPl3M
set_option linter.unusedVariables false
set_option maxHeartbeats 4000000
set_option maxRecDepth 100000
set_option linter.unusedSimpArgs false
set_option linter.defProp false
namespace Go.Proofs.YtokmkopihhnggaaGreatDoor
open Go Go.RowKit Go.Proofs.Tryz
def F38:=And.intro zS (And.intro IS (And.intro IT (And.intro FV (And.intro IU (And.intro cG (And.intro Ll (IV)))))))
theorem F39:type_of%F38:=F38
theorem qO (H:Hp) (ny nm s sz n pn sp:Nat) (E:TypeId) (A B:List C) (t:WT) (c:Int) (x:Rat) (hsz:sz≠0) (hnm:H nm=some ⟨s,E,sz,n,tcs A B (.own pn sp t.length 4) (enc (au t))⟩) (hp:H pn=some ⟨sp,230,4,t.length,ar cWP t⟩) (hne:nm≠pn) (F:∀k,3000<=k->k<3015->(nm=k)=False/\(k=nm)=False/\(pn=k)=False/\(k=pn)=False) (F1:nm≠3015)
  (hbH:∀y B,H y=some B->y<3000∨3015<=y) (hl:t.length<=1000000) (hc: -1<=c/\c<=1000000) (h1:qB 50000000000 (au t)) (h2:qB 50000000000 x):cX prog 127 [.one (.ptr nm s A.length),.one (.lit (.int .i64 c)),.agg (ai (enc x))] H ny
  (fun res H' _=>res= .tup []/\∀y B',up (up (up H pn none) 3015 (some ⟨ny+2,230,4,t.length+1,ar cWP (t++[(c,x)])⟩)) nm (some ⟨s,E,sz,n,tcs A B (.own 3015 (ny+2) (t.length+1) 4) (enc (au t+x))⟩) y=some B'->H' y=some B'):=by
 have G:(nm=3015)=False/\(3015=nm)=False/\(nm=pn)=False/\(pn=nm)=False:=⟨by simp [F1],by simp [F1.symm],by simp [hne],by simp [hne.symm]⟩;have hA:=tg (au t) x 50000000000 50000000000 h1 h2 (by decide) (by decide);have ts1:=fun X=>ED A B X (enc (au t)) (enc (au t+x))
 simp only [ai] at hA ts1;refine cN 3000 func127 rfl (by decide) (N:=27) rfl (by simp) (Rl:=[]) rfl fun en k0=>?_
 refine awN ?_;simp only [F39,seval,ai];refine awD (scT 0 8 (scq [16,18,21,23,24] .nil)) [0,0,0,0,0,0,0,0,0,0,0,0,0] ?_;simp only [F39,seval,G,uJ A B,hnm,hp,F,AM A B,EC A B];repeat refine ob ?_
 refine awD (scT 0 6 (scq [12,15,17,18] .nil)) [0,0,0,0,0,0,0,0,0,0] ?_;simp only [F39,seval,ai,F,Kp A B,uJ A B];repeat refine ob ?_
 refine ⟨_,hA,rfl,?_⟩;try simp only [ak,F39,seval,ts1,uJ A B]
 repeat refine ob ?_
 try refine ⟨rfl,?_⟩
 intro y B h;try simp only [ap] at h ⊢
 by_cases hy:y=nm
 ·simp only [hy,if_true] at h ⊢;exact h
 simp only [hy,if_false] at h ⊢;by_cases hy2:y=3015
 ·simp only [hy2,if_true] at h ⊢;simpa [aG,cWP,ai] using h
 simp only [hy2,if_false] at h ⊢;by_cases hy3:y=pn
 ·simp only [hy3,if_true] at h ⊢;exact h
 simp only [hy3,if_false] at h ⊢;have h9:=hbH y B h;repeat rw [if_neg (by omega)]
 exact h
def F40:=And.intro zS (And.intro qo (And.intro me (And.intro sT (And.intro DV (And.intro jW (cG))))))
theorem F41:type_of%F40:=F40
theorem EK (H:Hp) (ny s sc n:Nat) (R:WR) (c:Int) (x:Rat) (h50:H 50=some ⟨s,200,4,1,.own 48 sc n 3::ai (enc R.rv)⟩) (h48:H 48=some ⟨sc,32,3,n,ar cQ R.cl⟩) (hn:R.cl.length=n) (hbH:∀y B,H y=some B->y<9000) (hl:n<=1000000) (hc:inR n c) (h1:R.B 50000000000) (h2:qB 50000000000 x):cX prog 167 [.one (.ptr 50 s 0),.one (.lit (.int .i64 c)),.agg (ai (enc x))] H ny
  (fun res H' _=>res= .tup []/\∀y B',bC H [(50,⟨s,200,4,1,.own 48 sc n 3::ai (enc (R.add c x).rv)⟩),(48,⟨sc,32,3,n,ar cQ (R.add c x).cl⟩)] y=some B'->H' y=some B'):=by
 have hci:c= -1∨0<=c/\c<n:=hc;refine cN 9000 func167 rfl (by decide) (N:=32) rfl (by simp) (Rl:=[]) rfl fun en k0=>?_
 refine awN ?_;simp only [F41,seval,ai];by_cases hc0:c= -1
 ·refine awN ?_;simp only [F41,seval,hc0];refine awT ?_;have hA1:=tg R.rv x 50000000000 50000000000 h1.2 h2 (by decide) (by decide);simp only [ai] at hA1;refine awD (scT 0 6 (scq [12,15,17,18] .nil)) [0,0,0,0,0,0,0,0,0,0] ?_;simp only [F41,seval,ai,h50];refine ⟨_,hA1,rfl,?_⟩;try simp only [ak,F41,seval,ai,h50]
  refine awX ?_;simp only [F41,seval];try refine ⟨rfl,?_⟩
  intro y B h;simp only [WR.add,if_true] at h ⊢;by_cases hy:y=50
  ·subst hy;first|exact h|(simpa [h50,ai] using h)
  simp only [hy,if_false] at h ⊢;by_cases hy2:y=48
  ·subst hy2;first|exact h|(simpa [h48] using h)
  simp only [hy2,if_false] at h ⊢;have h9:=hbH y B h;repeat rw [if_neg (by omega)]
  exact h
 refine awN ?_;simp only [F41,seval,hc0];refine awF ?_;refine awK ?_;simp only [F41,seval];obtain ⟨k,hk⟩:∃k:Nat,c=(k:Int):=⟨c.toNat,by omega⟩;subst hk;have hkn:k<R.cl.length:=by omega
 have hat:=aO bV R.cl k hkn;have hgd:R.cl.getD k 0=R.cl[k]:=by rw [List.getD_eq_getElem?_getD,List.getElem?_eq_getElem hkn];rfl
 have hA2:=tg R.cl[k] x 50000000000 50000000000 (h1.1 _ (List.getElem_mem hkn)) h2 (by decide) (by decide);have hset:=dJ bV R.cl k (R.cl[k]+x) hkn;have hfl:=be bV R.cl;simp only [cQ,ai] at hA2 hset hat;have hct:((k:Int)).toNat=k:=Int.toNat_natCast k;refine awD (scT 0 13 (scq [26,29,30] .nil)) [0,0,0,0,0,0,0,0,0,0,0,0,0,0,0,0] ?_;simp only [F41,seval,ai,h50,h48,hat,hfl];repeat refine ob ?_
 refine ⟨_,hA2,rfl,?_⟩;try simp only [ak,F41,seval,h48,hset,hfl]
 repeat refine ob ?_
 try refine ⟨rfl,?_⟩
 intro y B h;simp only [WR.add,hc0,if_false,Int.toNat_natCast,hgd] at h ⊢;by_cases hy:y=50
 ·subst hy;first|exact h|(simpa [h50,ai] using h)
 simp only [hy,if_false] at h ⊢;by_cases hy2:y=48
 ·subst hy2;first|exact h|(simpa [h48] using h)
 simp only [hy2,if_false] at h ⊢;have h9:=hbH y B h;repeat rw [if_neg (by omega)]
 exact h
theorem Ho (p q:Rat) (hp:qB 50000000000 p) (hq:qB 50000000000 q):aU prog 34 [.agg (ai (enc p)),.agg (ai (enc q))] (one (.int .i64 (dQ p q))):=by
 have h:=DP (enc p) (enc q) 50000000000 50000000000 (dj hp) (dj hq) (by decide) (by decide) (by decide) (by decide);rwa [cc,cc] at h
def xe (k:Nat) (l:List WT) (m:Rat):Nat×Rat:=(k+(aJ l m).1,(aJ l m).2)
theorem EL (k:Nat) (m:Rat):xe k [] m=(k,m):=rfl
theorem Cn (k:Nat) (t:WT) (l:List WT) (m:Rat):xe k (t::l) m=if m<au t then (k,m) else xe (k+1) l (m-au t):=by
 unfold xe;by_cases h:m<au t
 ·simp [aJ,h]
 simp only [aJ,h,if_false];rw [Nat.add_assoc,Nat.add_comm 1]
theorem ti (l:List WT) (m:Rat):xe 0 l m=aJ l m:=by unfold xe;simp
theorem onW {H f:Hp} {b:Nat} (hbH:∀y B,H y=some B->y<b) (hf:∀x,x<b->x≠50->x≠48->f x=H x) (l:List Nat) (h1:fM l 50=true) (h2:fM l 48=true):∀x B,H x=some B->fM l x=true∨f x=some B:=fun x B hB=>by
 by_cases e1:x=50
 ·subst e1;exact .inl h1
 by_cases e2:x=48
 ·subst e2;exact .inl h2
 exact .inr (by rw [hf x (hbH x B hB) e1 e2];exact hB)
noncomputable def spR (x:Nat×Rat):AV:= .tup [.one (.lit (.int .i64 (x.1:Int))),.agg (ai (enc x.2))]
def F42:=And.intro zS (And.intro wq (And.intro sU (And.intro FV (And.intro cG (And.intro An (And.intro d7 (Ao)))))))
theorem F43:type_of%F42:=F42
theorem uK (l:List WT) (m0:Rat) (K S M:Nat) (hl:wOK K S l) (hM:qB M m0) (hS:S<=50000000000) (hB:M+l.length*(S+1)<=50000000000):aU prog 166 [.one (.sh 4 l.length (ar cWT l)),.agg (ai (enc m0))] (spR (aJ l m0)):=by
 refine aT func166 rfl (by decide) (N:=30) rfl (by simp) (R:=[.tmp 4,.cell 5 32]) rfl fun en k0=>?_
 refine awN ?_;simp only [F43,seval,ai];refine awN ?_;simp only [F43,seval];have hV0:qB (M+0*(S+1)) m0:=hM.mono (by omega);have hll:=hl.1;refine aS [0,3,5,8,9,10] [3,5] ?_;try simp only [ak,F43,seval]
 repeat' first|apply awS|apply awB
 refine aM (fun n st=>∃i0 m nx,i0<=l.length/\n=l.length-i0/\xe i0 (l.drop i0) m=xe 0 l m0/\qB (M+i0*(S+1)) m/\st=⟨mkT [(0,.val (.one (.sh 4 l.length (ar cWT l)))),(3,.val (.one (.ptr 3 0 0))),(5,.val (.one (.ptr 5 1 0))),(8,.val (.one (.sh 4 l.length (ar cWT l)))),(9,one (.int .i64 l.length)),(10,one (.int .i64 i0))],mkH [(3,⟨0,32,3,1,ai (enc m)⟩),(5,⟨1,32,3,1,[.lit (.bool false),.lit (.string aA),.lit (.string aA)]⟩)],nx,0⟩) (l.length) ⟨0,m0,_,by omega,by omega,by rfl,(by first|omega|assumption|rfl|simp|(simp;omega)),rfl⟩ ?_;rintro n0 st ⟨i0,m,nx0,hk0,rfl,hL0,hV0_1,rfl⟩;by_cases hlt0:i0<l.length
 ·have hI0:(i0:Int)<(l.length:Int):=by omega
  have hat0:=aO lu l i0 hlt0;try rw [Nat.mul_one] at hat0
  rw [List.drop_eq_getElem_cons hlt0] at hL0;have hsz:=hl.2 _ (List.getElem_mem hlt0);have hVm:=hV0_1;have hmul:(i0+1)*(S+1)<=l.length*(S+1):=Nat.mul_le_mul_right _ hlt0;have hmul1:(i0+1)*(S+1)=i0*(S+1)+(S+1):=Nat.succ_mul _ _;have hnx:=(hVm.sub hsz.2.1).mono (n:=M+(i0+1)*(S+1)) (by omega);generalize l[i0]=t at *
  simp only [Cn] at hL0;refine awN ?_;simp only [F43,seval,ai,hI0];refine awT ?_;refine awK ?_;simp only [F43,seval];refine awN ?_;simp only [F43,seval,ai,hI0,hat0,cWT];repeat refine ob ?_
  by_cases hq:dQ m (au t)<0
  ·have hm:m<au t:=(fF _ _).1 hq;have hC:=Ho m (au t) (hVm.mono (by omega)) (hsz.2.1.mono (by omega));simp only [ai] at hC;refine awN ?_;simp only [F43,seval];refine ⟨_,hC,rfl,?_⟩;try simp only [ak,F43,seval,hq]
   refine awT ?_;refine awD (scq [1,3,5,6] .nil) [0,0,0,0] ?_;simp only [F43,seval];refine awX ?_;simp only [F43,seval];rw [ti] at hL0;simp [←hL0,spR,hm,ai]
  have hm:¬m<au t:=fun h=>hq ((fF _ _).2 h)
  have hC:=Ho m (au t) (hVm.mono (by omega)) (hsz.2.1.mono (by omega));simp only [ai] at hC;refine awN ?_;simp only [F43,seval];refine ⟨_,hC,rfl,?_⟩;try simp only [ak,F43,seval,hq]
  refine awF ?_;refine awK ?_;simp only [F43,seval];have hA:=AP m (au t) _ _ hVm hsz.2.1 (by omega) (by omega);simp only [ai] at hA;refine awN ?_;simp only [F43,seval];refine ⟨_,hA,rfl,?_⟩;try simp only [ak,F43,seval]
  refine awN ?_;simp only [F43,seval];repeat refine ob ?_
  refine ⟨_,aC [0,3,5,8,9,10] [3,5],l.length-(i0+1),by omega,i0+1,(m-au t),?a10_nx,by omega,rfl,?i10_0,?i10_1,?st10⟩;case st10=>(simp only [F43,seval];first|rfl|(simp [hI0,hat0,hq,hm,Nat.add_mul];done))
  case i10_0=>(first|exact hL0|(rw [←hL0];simp only [reduceIte,hm];done)|(rw [←hL0];simp [hI0,hat0,hq,hm];done)|(simp [hI0,hat0,hq,hm] at hL0;simpa using hL0)|(rw [←hL0];simp [*];done))
  all_goals (first|omega|assumption|(simp;omega)|(simp_all;done))
 obtain rfl:i0=l.length:=by omega
 have hI0:¬(l.length:Int)<(l.length:Int):=by omega
 rw [List.drop_length] at hL0;simp only [EL] at hL0;refine awN ?_;simp only [F43,seval,ai,hI0];refine awF ?_;refine awQ ?_;simp only [F43,seval];refine awD (scT 0 4 (scq [8] .nil)) [0,0,0,0,0] ?_;simp only [F43,seval];refine awX ?_;simp only [F43,seval];rw [ti] at hL0;simp [←hL0,spR,ai]
def F44:=And.intro zS (And.intro G3 (And.intro IS (And.intro G4 (And.intro G5 (And.intro IT (And.intro FV (And.intro IU (And.intro cG (And.intro jc (And.intro G6 (And.intro d7 (IV))))))))))))
theorem F45:type_of%F44:=F44
theorem AQ (H:Hp) (ny s sc nn:Nat) (R0:WR) (t:WT) (a:Rat) (K A Sm C Z:Nat) (h50:H 50=some ⟨s,200,4,1,.own 48 sc nn 3::ai (enc R0.rv)⟩) (h48:H 48=some ⟨sc,32,3,nn,ar cQ R0.cl⟩) (hR0:R0.cl.length=nn) (hbH:∀y B,H y=some B->y<8000) (hl:nn<=1000000) (htl:t.length<=1000) (hin:wIn nn t) (hA0:qB A a) (hS0:qB Sm (au t)) (hK:∀p∈t,qB K p.2) (hC:R0.B C) (hZ:K+(A+Sm)<=Z) (hB:C+t.length*(Z+1)<=50000000000) (hZb:Z<=50000000000):cX prog 168 [.one (.ptr 50 s 0),.agg (cWT t),.agg (ai (enc a))] H ny
  (fun res H' _=>res= .tup []/\∀y B',bC H [(50,⟨s,200,4,1,.own 48 sc nn 3::ai (enc (e7 (a/au t) t R0).rv)⟩),(48,⟨sc,32,3,nn,ar cQ (e7 (a/au t) t R0).cl⟩)] y=some B'->H' y=some B'):=by
 refine cN 8000 func168 rfl (by decide) (N:=33) rfl (by simp) (Rl:=[]) rfl fun en k0=>?_
 refine awN ?_;simp only [F45,seval,ai,cWT];have hA:=Gy a (au t) A Sm hA0 hS0 (by omega) (by omega);simp only [ai] at hA;refine awN ?_;simp only [F45,seval];refine ⟨_,hA,rfl,?_⟩;try simp only [ak,F45,seval]
 refine awN ?_;simp only [F45,seval];have hQ:qB (A+Sm) (a/au t):=hA0.div hS0;generalize a/au t=q at *
 have hV0:R0.B (C+0*(Z+1)):=hC.mono (by omega);refine eE H [0,6,18,19,20] [50,48,8006] (onW hbH (fun x h1 h2 h3=>by simp only [ap];repeat rw [if_neg (by omega)]) _ (by rfl) (by rfl)) ?_;try simp only [ak,F45,seval,ai,h50,h48]
 repeat' first|apply awS|apply awB
 refine aM (fun n st=>∃i0 R nx,i0<=t.length/\n=t.length-i0/\e7 q (t.drop i0) R=e7 q t R0/\R.cl.length=nn/\R.B (C+i0*(Z+1))/\st=⟨mkT [(0,.val (.one (.ptr 50 s 0))),(6,.val (.one (.ptr 8006 (ny+2) 0))),(18,.val (.one (.sh 4 t.length (ar cWP t)))),(19,one (.int .i64 t.length)),(20,one (.int .i64 i0))],bC H [(50,⟨s,200,4,1,.own 48 sc nn 3::ai (enc R.rv)⟩),(48,⟨sc,32,3,nn,ar cQ R.cl⟩),(8006,⟨(ny+2),32,3,1,ai (enc q)⟩)],nx,8000⟩) (t.length) ⟨0,R0,_,by omega,by omega,by rfl,(by first|omega|assumption|rfl|simp|(simp;omega)),(by first|omega|assumption|rfl|simp|(simp;omega)),rfl⟩ ?_;rintro n0 st ⟨i0,R,nx0,hk0,rfl,hL0,hV0_1,hV0_2,rfl⟩;by_cases hlt0:i0<t.length
 ·skip;have hI0:(i0:Int)<(t.length:Int):=by omega
  have hat0:=aO pg t i0 hlt0;try rw [Nat.mul_one] at hat0
  rw [List.drop_eq_getElem_cons hlt0] at hL0;have hxm:=(List.getElem_mem hlt0);have hRn:=hV0_1;have hRB:=hV0_2;have hmul:(i0+1)*(Z+1)<=t.length*(Z+1):=Nat.mul_le_mul_right _ hlt0;have hmul1:(i0+1)*(Z+1)=i0*(Z+1)+(Z+1):=Nat.succ_mul _ _;have hnx:=(eU hRB (t[i0]).1 (((hK _ hxm).mul hQ).mono hZ)).mono (n:=C+(i0+1)*(Z+1)) (by omega);have hnl:=cb R (t[i0]).1 ((t[i0]).2*q);generalize t[i0]=x at *
  simp only [e7] at hL0;refine awN ?_;simp only [F45,seval,ai,hI0];refine awT ?_;refine awK ?_;simp only [F45,seval];refine awN ?_;simp only [F45,seval,ai,hI0,hat0,cWP];repeat refine ob ?_
  have hA5:=Kr x.2 q _ _ (hK _ hxm) hQ (by omega) (by omega);simp only [ai] at hA5;repeat' first|apply awS|apply awB
  refine cm [31] (by kernel_rfl) (.cons 0 true (.cons 1 true (.cons 2 true (.cons 3 true (.cons 4 true (.cons 5 true (.cons 6 false (.cons 7 false .nil)))))))) (by kernel_rfl) (gs:=[none,none,none,none,none,none,none,none]) (by kernel_rfl) (by simp only [zT,seval];rfl) (by decide) ?_;simp only [F45,seval,(id SD)];refine ⟨_,hA5,rfl,?_⟩;try simp only [ak,F45,seval,ai,h50,h48,hI0,hat0,cWP]
  repeat refine ob ?_
  refine ⟨_,EK _ _ s sc nn R x.1 (x.2*q) (by rfl) (by rfl) hRn (fun y B h=>?_) (by omega) (hin _ hxm) (hRB.mono (by omega)) (((hK _ hxm).mul hQ).mono (by omega)),?_⟩
  ·simp only [ap] at h;repeat (split at h;· omega)
   have h9:=hbH y B h;omega
  rintro res H' nx' ⟨rfl,hW⟩;simp only [F45,seval];refine cq hW ?_;simp only [F45,seval];refine awN ?_;simp only [F45,seval,ai];repeat refine ob ?_
  refine ⟨_,dq H [0,6,18,19,20] [50,48,8006] (onW hbH (fun x h1 h2 h3=>by simp only [ap];repeat rw [if_neg (by omega)]) _ (by rfl) (by rfl)),t.length-(i0+1),by omega,i0+1,(R.add x.1 (x.2*q)),?a7_nx,by omega,rfl,?i7_0,?i7_1,?i7_2,?st7⟩;case st7=>(simp only [F45,seval];first|rfl|(simp [hI0,hat0,Nat.add_mul];done))
  case i7_0=>(first|exact hL0|(rw [←hL0];simp only [reduceIte,hI0,hat0];done)|(rw [←hL0];simp [hI0,hat0];done)|(simp [hI0,hat0] at hL0;simpa using hL0)|(rw [←hL0];simp [*];done))
  all_goals (first|omega|assumption|(simp;omega)|(simp_all;done))
 skip;obtain rfl:i0=t.length:=by omega
 have hI0:¬(t.length:Int)<(t.length:Int):=by omega
 rw [List.drop_length] at hL0;simp only [e7] at hL0;refine awN ?_;simp only [F45,seval,ai,hI0];refine awF ?_;refine awQ ?_;simp only [F45,seval];try refine ⟨rfl,?_⟩
 intro y B h;simp only [←hL0] at h;try simp only [bC,ap] at h ⊢
 by_cases hy:y=50
 ·subst hy;first|exact h|(simpa [h50,ai] using h)
 simp only [hy,if_false] at h ⊢;by_cases hy2:y=48
 ·subst hy2;first|exact h|(simpa [h48] using h)
 simp only [hy2,if_false] at h ⊢;have h9:=hbH y B h;repeat rw [if_neg (by omega)]
 exact h
theorem y8 (l:List WT) (k:Nat):wN (l.take k)<=wN l:=by
 have:=nQ (l.take k) (l.drop k);rw [List.take_append_drop] at this;omega
def F46:=And.intro zS (And.intro G3 (And.intro wq (And.intro IS (And.intro sU (And.intro G4 (And.intro G5 (And.intro IT (And.intro IU (And.intro cG (And.intro jc (And.intro G6 (And.intro An (And.intro d7 (And.intro IV (Ao)))))))))))))))
theorem F47:type_of%F46:=F46
theorem Hq (H:Hp) (ny s sc nn:Nat) (R0:WR) (l:List WT) (m:Rat) (K Sm M C Z:Nat) (h50:H 50=some ⟨s,200,4,1,.own 48 sc nn 3::ai (enc R0.rv)⟩) (h48:H 48=some ⟨sc,32,3,nn,ar cQ R0.cl⟩) (hR0:R0.cl.length=nn) (hbH:∀y B,H y=some B->y<7000) (hn:nn<=1000000) (hl:wOK K Sm l) (hin:∀t∈l,wIn nn t) (hM:qB M m) (hC:R0.B C) (hZ:K+(M+l.length*(Sm+1))+Sm<=Z) (hB:C+wN l*(Z+1)<=50000000000) (hZb:Z<=40000000000):cX prog 131 [.one (.sh 4 l.length (ar cWT l)),.agg (ai (enc m)),.one (.ptr 50 s 0)] H ny
  (fun res H' _=>res= .tup []/\∀y B',bC H [(50,⟨s,200,4,1,.own 48 sc nn 3::ai (enc (io l m R0).rv)⟩),(48,⟨sc,32,3,nn,ar cQ (io l m R0).cl⟩)] y=some B'->H' y=some B'):=by
 obtain ⟨fu,lf,hsp⟩:∃fu lf,aJ l m=(fu,lf):=⟨_,_,rfl⟩;have hfl:fu<=l.length:=by have:=ll l m;rw [hsp] at this;exact this
 have hlfB:=kw l m M (fun t ht=>(hl.2 t ht).2.1) hM;rw [hsp] at hlfB;simp only at hlfB;obtain ⟨l1,hl1⟩:∃l1,l1=l.take fu:=⟨_,rfl⟩;have hl1n:l1.length=fu:=by rw [hl1,List.length_take];omega
 subst hl1n;have hft:List.take (l1.length*4) (ar cWT l)=ar cWT l1:=by rw [BZ lu,←hl1]
 have hll:=hl.1;have hwl0:wN l<=1000000:=by
  have h1:∀l:List WT,(∀t∈l,t.length<=1000)->wN l<=l.length*1000:=by
   intro l;induction l with
   |nil=>intro _;simp [wN]
   |cons t l ih=>
    intro h;have h1:=ih fun x hx=>h x (by simp [hx])
    have h2:=h t (by simp);simp only [wN,List.length_cons];omega
  have:=h1 l fun t ht=>(hl.2 t ht).1
  omega
 refine cN 7000 func131 rfl (by decide) (N:=52) rfl (by simp) (Rl:=[]) rfl fun en k0=>?_
 refine awN ?_;simp only [F47,seval,ai];have hA:=uK l m K Sm M hl hM (by omega) (by omega);rw [hsp] at hA;simp only [spR,ai] at hA;refine awN ?_;simp only [F47,seval,ab az];refine ⟨_,hA,(by first|rfl|simp [a8,aK,al,aw,A1.cells,ab az]),?_⟩;try simp only [ak,F47,seval]
 refine awN ?_;simp only [F47,seval,hft,Nat.sub_zero];repeat refine ob ?_
 have hV0:R0.B (C+0*(K+1)):=hC.mono (by omega);refine eE H [0,2,6,7,20,21,22] [50,48,7007] (onW hbH (fun x h1 h2 h3=>by simp only [ap];repeat rw [if_neg (by omega)]) _ (by rfl) (by rfl)) ?_;try simp only [ak,F47,seval,ai,h50,h48]
 repeat' first|apply awS|apply awB
 refine aM (fun n st=>∃i0 R w nx,i0<=l1.length/\n=l1.length-i0/\f5 (l1.drop i0) R=f5 l1 R0/\R.cl.length=nn/\R.B (C+w*(K+1))/\w+wN (l1.drop i0)=wN l1/\st=⟨mkT [(0,.val (.one (.sh 4 l.length (ar cWT l)))),(2,.val (.one (.ptr 50 s 0))),(6,one (.int .i64 l1.length)),(7,.val (.one (.ptr 7007 (ny+1) 0))),(20,.val (.one (.sh 4 l1.length (ar cWT l1)))),(21,one (.int .i64 l1.length)),(22,one (.int .i64 i0))],bC H [(50,⟨s,200,4,1,.own 48 sc nn 3::ai (enc R.rv)⟩),(48,⟨sc,32,3,nn,ar cQ R.cl⟩),(7007,⟨ny+1,32,3,1,ai (enc lf)⟩)],nx,7000⟩) (l1.length) ⟨0,R0,0,_,by omega,by omega,by rfl,(by first|omega|assumption|rfl|simp|(simp;omega)),(by first|omega|assumption|rfl|simp|(simp;omega)),(by first|omega|assumption|rfl|simp|(simp;omega)),rfl⟩ ?_;rintro n0 st ⟨i0,R,w,nx0,hk0,rfl,hL0,hV0_1,hV0_2,hV0_3,rfl⟩;by_cases hlt0:i0<l1.length
 ·have hI0:(i0:Int)<(l1.length:Int):=by omega
  have hat0:=aO lu l1 i0 hlt0;try rw [Nat.mul_one] at hat0
  rw [List.drop_eq_getElem_cons hlt0] at hL0;have htm:l1[i0]∈l:=List.mem_of_mem_take (i:=l1.length) (by rw [←hl1];exact (List.getElem_mem hlt0));have hsz:=hl.2 _ htm;have hRn:=hV0_1;have hRB:=hV0_2;have hw0:=hV0_3;rw [List.drop_eq_getElem_cons hlt0] at hw0;simp only [wN] at hw0;have hmw:(w+(l1[i0]).length)*(K+1)=w*(K+1)+(l1[i0]).length*(K+1):=Nat.add_mul _ _ _;have hwl2:w+(l1[i0]).length<=wN l:=by have:=y8 l l1.length;rw [←hl1] at this;omega
  have hm1:(w+(l1[i0]).length)*(K+1)<=wN l*(Z+1):=Nat.mul_le_mul hwl2 (by omega);generalize l1[i0]=t at *
  simp only [f5] at hL0;refine awN ?_;simp only [F47,seval,ai,hI0];refine awT ?_;refine awK ?_;simp only [F47,seval];refine awN ?_;simp only [F47,seval,ai,hI0,hat0,cWT];repeat refine ob ?_
  refine awN ?_;simp only [F47,seval];have hV1:R.B (C+w*(K+1)+0*(K+1)):=hRB.mono (by omega);refine eE H [0,2,6,7,20,21,22,27,28,29] [50,48,7007] (onW hbH (fun x h1 h2 h3=>by simp only [ap];repeat rw [if_neg (by omega)]) _ (by rfl) (by rfl)) ?_;try simp only [ak,F47,seval]
  repeat' first|apply awS|apply awB
  refine aM (fun n st=>∃i1 R2 nx,i1<=t.length/\n=t.length-i1/\iE (t.drop i1) R2=iE t R/\R2.cl.length=nn/\R2.B (C+w*(K+1)+i1*(K+1))/\st=⟨mkT [(0,.val (.one (.sh 4 l.length (ar cWT l)))),(2,.val (.one (.ptr 50 s 0))),(6,one (.int .i64 l1.length)),(7,.val (.one (.ptr 7007 (ny+1) 0))),(20,.val (.one (.sh 4 l1.length (ar cWT l1)))),(21,one (.int .i64 l1.length)),(22,one (.int .i64 i0)),(27,.val (.one (.sh 4 t.length (ar cWP t)))),(28,one (.int .i64 t.length)),(29,one (.int .i64 i1))],bC H [(50,⟨s,200,4,1,.own 48 sc nn 3::ai (enc R2.rv)⟩),(48,⟨sc,32,3,nn,ar cQ R2.cl⟩),(7007,⟨ny+1,32,3,1,ai (enc lf)⟩)],nx,7000⟩) (t.length) ⟨0,R,_,by omega,by omega,by rfl,(by first|omega|assumption|rfl|simp|(simp;omega)),(by first|omega|assumption|rfl|simp|(simp;omega)),rfl⟩ ?_;rintro n1 st ⟨i1,R2,nx1,hk1,rfl,hL1,hV1_1,hV1_2,rfl⟩;by_cases hlt1:i1<t.length
  ·have hI1:(i1:Int)<(t.length:Int):=by omega
   have hat1:=aO pg t i1 hlt1;try rw [Nat.mul_one] at hat1
   rw [List.drop_eq_getElem_cons hlt1] at hL1;have hxm:=(List.getElem_mem hlt1);have hRn2:=hV1_1;have hRB2:=hV1_2;have hmul:(i1+1)*(K+1)<=t.length*(K+1):=Nat.mul_le_mul_right _ hlt1;have hmul1:(i1+1)*(K+1)=i1*(K+1)+(K+1):=Nat.succ_mul _ _;have hnx:=(eU hRB2 (t[i1]).1 (hsz.2.2 _ hxm)).mono (n:=C+w*(K+1)+(i1+1)*(K+1)) (by omega);have hnl:=cb R2 (t[i1]).1 (t[i1]).2;generalize t[i1]=x at *
   simp only [iE] at hL1;refine awN ?_;simp only [F47,seval,ai,hI1];refine awT ?_;refine awK ?_;simp only [F47,seval];refine awN ?_;simp only [F47,seval,ai,hI1,hat1,cWP];repeat refine ob ?_
   refine awR [38] [0,0,0,0,0,0] ?_;simp only [F47,seval];refine ⟨_,EK _ _ s sc nn R2 x.1 x.2 (by rfl) (by rfl) hRn2 (fun y B h=>?_) (by omega) (hin _ htm _ hxm) (hRB2.mono (by omega)) ((hsz.2.2 _ hxm).mono (by omega)),?_⟩
   ·simp only [ap] at h;repeat (split at h;· omega)
    have h9:=hbH y B h;omega
   rintro res H' nx' ⟨rfl,hW⟩;simp only [F47,seval];refine cq hW ?_;simp only [F47,seval];refine awN ?_;simp only [F47,seval,ai];repeat refine ob ?_
   refine ⟨_,dq H [0,2,6,7,20,21,22,27,28,29] [50,48,7007] (onW hbH (fun x h1 h2 h3=>by simp only [ap];repeat rw [if_neg (by omega)]) _ (by rfl) (by rfl)),t.length-(i1+1),by omega,i1+1,(R2.add x.1 x.2),?a10_nx,by omega,rfl,?i10_0,?i10_1,?i10_2,?st10⟩;case st10=>(simp only [F47,seval];first|rfl|(simp [hI0,hat0,hI1,hat1,Nat.add_mul];done))
   case i10_0=>(first|exact hL1|(rw [←hL1];simp only [reduceIte,hI0,hat0,hI1,hat1];done)|(rw [←hL1];simp [hI0,hat0,hI1,hat1];done)|(simp [hI0,hat0,hI1,hat1] at hL1;simpa using hL1)|(rw [←hL1];simp [*];done))
   all_goals (first|omega|assumption|(simp;omega)|(simp_all;done))
  obtain rfl:i1=t.length:=by omega
  have hI1:¬(t.length:Int)<(t.length:Int):=by omega
  rw [List.drop_length] at hL1;simp only [iE] at hL1;have hV1e:R2.B (C+(w+t.length)*(K+1)):=hV1_2.mono (by omega);refine awN ?_;simp only [F47,seval,ai,hI1];refine awF ?_;refine awQ ?_;simp only [F47,seval];refine awN ?_;simp only [F47,seval];repeat refine ob ?_
  refine ⟨_,dq H [0,2,6,7,20,21,22] [50,48,7007] (onW hbH (fun x h1 h2 h3=>by simp only [ap];repeat rw [if_neg (by omega)]) _ (by rfl) (by rfl)),l1.length-(i0+1),by omega,i0+1,(R2),(w+t.length),?a13_nx,by omega,rfl,?i13_0,?i13_1,?i13_2,?i13_3,?st13⟩;case st13=>(simp only [F47,seval];first|rfl|(simp [hI0,hat0,hI1,Nat.add_mul];done))
  case i13_0=>(first|exact hL0|(rw [←hL0];simp [←hL1];done)|(rw [←hL0];simp only [reduceIte,hI0,hat0,hI1];done)|(rw [←hL0];simp [hI0,hat0,hI1];done)|(simp [hI0,hat0,hI1] at hL0;simpa using hL0)|(rw [←hL0];simp [*];done))
  all_goals (first|omega|assumption|(simp;omega)|(simp_all;done))
 obtain rfl:i0=l1.length:=by omega
 have hI0:¬(l1.length:Int)<(l1.length:Int):=by omega
 rw [List.drop_length] at hL0;simp only [f5] at hL0;refine awN ?_;simp only [F47,seval,ai,hI0];refine awF ?_;refine awQ ?_;simp only [F47,seval];by_cases hk:(l1.length:Int)<(l.length:Int)
 ·refine awN ?_;simp only [F47,seval,hk];refine awT ?_;have hkl:l1.length<l.length:=by omega
  have hat:=aO lu l l1.length hkl;obtain ⟨t,ht⟩:∃t,l[l1.length]=t:=⟨_,rfl⟩;rw [ht] at hat;have htm:t∈l:=ht▸List.getElem_mem hkl;have hgt:l.getD l1.length []=t:=by rw [List.getD_eq_getElem?_getD,List.getElem?_eq_getElem hkl,ht];rfl
  have hRn:=hV0_1;have hsz:=hl.2 t htm;have hwl:w+t.length<=wN l:=by have h8:=Az l l1.length hkl;rw [←hl1,ht] at h8;omega
  have hm1:w*(K+1)<=w*(Z+1):=Nat.mul_le_mul_left _ (by omega);have hm2:(w+t.length)*(Z+1)<=wN l*(Z+1):=Nat.mul_le_mul_right _ hwl;have hm3:(w+t.length)*(Z+1)=w*(Z+1)+t.length*(Z+1):=Nat.add_mul _ _ _;repeat' first|apply awS|apply awB
  refine cm [51] (by kernel_rfl) (.cons 0 true (.cons 1 true (.cons 2 true (.cons 3 true (.cons 4 true (.cons 5 true (.cons 6 false .nil))))))) (by kernel_rfl) (gs:=[none,none,none,none,none,none,none]) (by kernel_rfl) (by simp only [zT,seval];rfl) (by decide) ?_;simp only [F47,seval,ai,hk,hat,cWT,(id SD)];repeat refine ob ?_
  refine ⟨_,AQ _ _ s sc nn R t lf K (M+l.length*(Sm+1)) Sm (C+w*(K+1)) Z (by rfl) (by rfl) hRn (fun y B h=>?_) (by omega) hsz.1 (hin _ htm) hlfB hsz.2.1 hsz.2.2 hV0_2 (by omega) (by omega) (by omega),?_⟩
  ·simp only [ap] at h;repeat (split at h;· omega)
   have h9:=hbH y B h;omega
  rintro res H' nx' ⟨rfl,hW⟩;simp only [F47,seval,(id SD)];try refine ⟨rfl,?_⟩
  intro y B h;have hpay:io l m R0=e7 (lf/au t) t R:=by unfold io ef;rw [hsp];simp only;rw [if_pos hkl,hgt,←hl1,←hL0]
  rw [hpay] at h;refine hW y B ?_;try simp only [bC,ap] at h ⊢
  by_cases hy:y=50
  ·subst hy;first|exact h|(simpa [h50,ai] using h)
  simp only [hy,if_false] at h ⊢;by_cases hy2:y=48
  ·subst hy2;first|exact h|(simpa [h48] using h)
  simp only [hy2,if_false] at h ⊢;have h9:=hbH y B h;repeat rw [if_neg (by omega)]
  exact h
 refine awN ?_;simp only [F47,seval,hk];refine awF ?_;refine awK ?_;simp only [F47,seval];try refine ⟨rfl,?_⟩
 intro y B h;have hpay:io l m R0=R:=by unfold io ef;rw [hsp];simp only;rw [if_neg (by omega),←hl1,←hL0]
 rw [hpay] at h;try simp only [bC,ap] at h ⊢
 by_cases hy:y=50
 ·subst hy;first|exact h|(simpa [h50,ai] using h)
 simp only [hy,if_false] at h ⊢;by_cases hy2:y=48
 ·subst hy2;first|exact h|(simpa [h48] using h)
 simp only [hy2,if_false] at h ⊢;have h9:=hbH y B h;repeat rw [if_neg (by omega)]
 exact h
def F48:=And.intro zS (And.intro qo (And.intro FT (And.intro me (And.intro tf7 (And.intro DW (And.intro DX (And.intro cG (And.intro jc (And.intro iy (d7))))))))))
theorem F49:type_of%F48:=F48
theorem m6 (p:ci) (g:List Rat) (gn:Nat) (hgn:g.length=gn) (G:Nat) (hi:∀i∈p.1,0<=i/\i<(g.length:Int)) (hG:∀x∈g,qB G x) (hGb:G<=50000000000) (hn:p.1.length<=1000000) (hgl:g.length<=1000000) (hB:1+p.1.length*(G+1)<=100000000000):aU prog 132 [.agg (dv p),.one (.sh 3 gn (ar cQ g))] (.val (.agg (ai (enc (aQ g p.1))))):=by
 subst hgn;refine aT func132 rfl (by decide) (N:=24) rfl (by simp) (R:=[.cell 4 32]) rfl fun en k0=>?_
 refine awN ?_;simp only [F49,seval,ai,dv];refine awN ?_;simp only [F49,seval];refine awN ?_;simp only [F49,seval];refine ch (dl 5 (ai (enc 0)) (by rfl) (by show (3:Nat)≠0;decide) (by rfl) (fun κ vs h=>by rw [br];exact h)) ?_;have hq0:qB (1+0*(G+1)) (0:Rat):=ce.mono (by omega);simp only [F49,seval];refine aS [1,4,5,10,11,12] [4,5] ?_;try simp only [ak,F49,seval,ai]
 repeat' first|apply awS|apply awB
 refine aM (fun n st=>∃i0 q nx,i0<=p.1.length/\n=p.1.length-i0/\q+aQ g (p.1.drop i0)=0+aQ g p.1/\qB (1+i0*(G+1)) q/\st=⟨mkT [(1,.val (.one (.sh 3 g.length (ar cQ g)))),(4,.val (.one (.ptr 4 1 0))),(5,.val (.one (.ptr 5 2 0))),(10,.val (.one (.sh 1 p.1.length (ar cI p.1)))),(11,one (.int .i64 p.1.length)),(12,one (.int .i64 i0))],mkH [(4,⟨1,32,3,1,[.lit (.bool false),.lit (.string aA),.lit (.string aA)]⟩),(5,⟨2,32,3,1,ai (enc q)⟩)],nx,0⟩) (p.1.length) ⟨0,0,_,by omega,by omega,by rfl,(by first|omega|assumption|rfl|simp|(simp;omega)),rfl⟩ ?_;rintro n0 st ⟨i0,q,nx0,hk0,rfl,hL0,hV0_1,rfl⟩;by_cases hlt0:i0<p.1.length
 ·have hI0:(i0:Int)<(p.1.length:Int):=by omega
  have hat0:=aO nL p.1 i0 hlt0;try rw [Nat.mul_one] at hat0
  rw [List.drop_eq_getElem_cons hlt0] at hL0;obtain ⟨k,hxk⟩:∃k:Nat,p.1[i0]=(k:Int):=⟨(p.1[i0]).toNat,by have:=hi _ (List.getElem_mem hlt0);omega⟩;have hkg:k<g.length:=by have:=hi _ (List.getElem_mem hlt0);omega
  have hVq:=hV0_1;have hmul:(i0+1)*(G+1)<=p.1.length*(G+1):=Nat.mul_le_mul_right _ hlt0;have hmul1:(i0+1)*(G+1)=i0*(G+1)+(G+1):=Nat.succ_mul _ _;have hnx:=(hVq.add (hG _ (List.getElem_mem hkg))).mono (n:=1+(i0+1)*(G+1)) (by omega);have hgk:g.getD k 0=g[k]:=by rw [List.getD_eq_getElem?_getD,List.getElem?_eq_getElem hkg];rfl
  simp only [hxk] at *
  generalize p.1[i0]=x at *
  simp only [aQ] at hL0;refine awN ?_;simp only [F49,seval,ai,hI0];refine awT ?_;refine awK ?_;simp only [F49,seval];refine awN ?_;simp only [F49,seval,hI0,hat0,cI];repeat refine ob ?_
  have hA:=tg q g[k] _ G hVq (hG _ (List.getElem_mem hkg)) (by omega) (by omega);simp only [ai] at hA;have hatg:=aO bV g k hkg;simp only [cQ,ai] at hatg;refine awD (scT 0 5 (scq [10,12] .nil)) [0,0,0,0,0,0,0] ?_;simp only [F49,seval,hatg];repeat refine ob ?_
  refine ⟨_,hA,rfl,?_⟩;try simp only [ak,F49,seval]
  refine awN ?_;simp only [F49,seval];repeat refine ob ?_
  refine ⟨_,aC [1,4,5,10,11,12] [4,5],p.1.length-(i0+1),by omega,i0+1,(q+g[k]),?a7_nx,by omega,rfl,?i7_0,?i7_1,?st7⟩;case st7=>(simp only [F49,seval];first|rfl|(simp [hI0,hat0,Nat.add_mul];done))
  case i7_0=>(simp only [Int.toNat_natCast,hgk] at hL0;rw [←hL0];grind)
  all_goals (first|omega|assumption|(simp;omega)|(simp_all;done))
 obtain rfl:i0=p.1.length:=by omega
 have hI0:¬(p.1.length:Int)<(p.1.length:Int):=by omega
 rw [List.drop_length] at hL0;simp only [aQ] at hL0;refine awN ?_;simp only [F49,seval,ai,hI0];refine awF ?_;refine awQ ?_;simp only [F49,seval];refine awN ?_;simp only [F49,seval];refine awX ?_;simp only [F49,seval];have hq9:q=aQ g p.1:=by grind
 simp [hq9]
noncomputable def lyT (tr:WT) (t:List GPart) (rest:List Rat):WT×List Rat:=(tr++(cy t rest).2,(cy t rest).1)
theorem AR (tr:WT) (rest:List Rat):lyT tr [] rest=(tr,rest):=by simp [lyT,cy]
theorem xh (tr:WT) (x:GPart) (t:List GPart) (rest:List Rat):lyT tr (x::t) rest=lyT (tr++[(x.claim,(cV rest x).2)]) t (cV rest x).1:=by simp [lyT,cy]
noncomputable def lyS (out:List WT) (a:List (List GPart)) (rest:List Rat):List WT×List Rat:=(out++(bD a rest).2,(bD a rest).1)
theorem AS (out:List WT) (rest:List Rat):lyS out [] rest=(out,rest):=by simp [lyS,bD]
theorem xi (out:List WT) (t:List GPart) (a:List (List GPart)) (rest:List Rat):lyS out (t::a) rest=lyS (out++[(cy t rest).2]) a (cy t rest).1:=by simp [lyS,bD]
theorem Co (rest:List Rat):fa [] rest=[]:=rfl
theorem qP (i:Int) (M:List Int) (rest:List Rat):fa (i::M) rest=(i,rest.getD i.toNat 0)::fa M rest:=rfl
def pN:List (List GPart)->Nat
 |[]=>0
 |t::a=>t.length+pN a
theorem Jl {B:Nat} {p q:Rat} (hp:qB B p) (hq:qB B q):qB B (bT p q):=by
 unfold bT;split
 ·exact hq
 exact hp
theorem lz {B K:Nat} {rest:List Rat} {x:GPart} (h:∀y∈rest,qB B y) (hx:qB K (qOf x.cap)) (hK:K<=B) (h0:0<B):(∀y∈(cV rest x).1,qB (B+(K+1)) y)/\qB B (cV rest x).2:=by
 have hg:=pe h h0 x.claim.toNat;unfold cV;by_cases hc:x.claim= -1
 ·simp only [hc,if_true];exact ⟨fun y hy=>(h y hy).mono (by omega),hx.mono hK⟩
 simp only [hc,if_false];have hz:qB (B+(K+1)) (rest.getD x.claim.toNat 0-rest.getD x.claim.toNat 0):=by
  rw [Rat.sub_self];exact ce.mono (by omega)
 by_cases hp:x.capped=true
 ·simp only [hp,if_true];refine ⟨fun y hy=>?_,Jl hg (hx.mono hK)⟩;rcases List.mem_or_eq_of_mem_set hy with h1|rfl
  ·exact (h y h1).mono (by omega)
  unfold bT;split
  ·exact (hg.sub hx).mono (by omega)
  exact hz
 have hp':x.capped=false:=by simpa using hp
 simp only [hp',if_false,Bool.false_eq_true];refine ⟨fun y hy=>?_,hg⟩;rcases List.mem_or_eq_of_mem_set hy with h1|rfl
 ·exact (h y h1).mono (by omega)
 exact hz
theorem qQ {κ:Kx} {vs:List Value} (x:C) (h:denVs κ vs [x,.lit (.bool false),.lit (.string aA),.lit (.string aA)]):denVs κ vs (tcs [] [] x (enc (au []))):=by
 have e:tcs [] [] x (enc (au []))=[x,.lit (.bool false),.lit (.string aA),.lit (.string aA)]:=by
  unfold tcs;rw [show au []=0 from rfl,br];rfl
 rw [e];exact h
structure layB (cs:List GClaim) (a:bP) (K Km:Nat):Prop where
 n:cs.length<=1000
 am:∀c∈cs,sB K c.amount
 tn:a.length<=1000
 pn:∀t∈a,t.length<=1000/\∀x∈t,inR cs.length x.claim/\sB K x.cap
 mn:(mem a).length<=1000
 mi:∀i∈mem a,0<=i/\i<(cs.length:Int)
 k0:0<K
 km:K+pN a*(K+1)<=Km
 kb:Km<=10000000
def F50:=And.intro zS (And.intro tf1 (And.intro wj (And.intro tf6 (And.intro qo (And.intro FT (And.intro tf2 (And.intro mc (And.intro tf0 (And.intro me (And.intro tf7 (And.intro sU (And.intro tf8 (And.intro yI (And.intro nJ (And.intro tf9 (And.intro DR (And.intro DS (And.intro DW (And.intro Ap (And.intro yG (And.intro nK (And.intro tf3 (And.intro DX (And.intro wk (And.intro DT (And.intro yH (And.intro cG (And.intro rY (And.intro jc (And.intro qp (And.intro ws (And.intro An (And.intro iy (And.intro J9 (And.intro wl (And.intro tf5 (And.intro d7 (And.intro sV (Ao)))))))))))))))))))))))))))))))))))))))
theorem F51:type_of%F50:=F50
theorem Ks (e:GEst) (a:bP) (K Km:Nat) (hB:layB e.claims a K Km):aU prog 128 [.agg (aI e),.agg (bz a)] (.val (.agg (dv (ba e.claims a)))):=by
 have hK0:=hB.k0;have hkm:=hB.km;have hkb:=hB.kb;have hfl0:a.flatten.length<=1000000000000:=by
  have h1:∀a:bP,(∀t∈a,t.length<=1000)->a.flatten.length<=a.length*1000:=by
   intro a;induction a with
   |nil=>intro _;simp
   |cons t a ih=>
    intro h;have h1:=ih fun x hx=>h x (by simp [hx])
    have h2:=h t (by simp);simp only [List.flatten_cons,List.length_append,List.length_cons];omega
  have h2:=h1 a fun t ht=>(hB.pn t ht).1
  have h3:=hB.tn;omega
 have hn1:=hB.n;have htn:=hB.tn;have hmn:=hB.mn;refine aT func128 rfl (by decide) (N:=117) rfl (by simp) (R:=[.cell 4 193]) rfl fun en k0=>?_
 refine awN ?_;simp only [F51,seval,aI,bz];have hMem:=sW a (by have:=hB.tn;omega) hfl0;refine awN ?_;simp only [F51,seval,ab bR];refine ⟨_,hMem,(by first|rfl|simp [al,aw,ab bm]),?_⟩;try simp only [ak,F51,seval]
 refine awN ?_;simp only [F51,seval,jF];repeat refine ob ?_
 refine awN ?_;simp only [F51,seval];refine aS [3,4,5,6,26,27,28] [3,4,5,24] ?_;try simp only [ak,F51,seval]
 repeat' first|apply awS|apply awB
 refine aM (fun n st=>∃i0 out nx,i0<=e.claims.length/\n=e.claims.length-i0/\out++List.map (fun c=>qOf c.amount) (e.claims.drop i0)=[]++List.map (fun c=>qOf c.amount) e.claims/\out.length=i0/\st=⟨mkT [(3,.val (.one (.ptr 3 1 0))),(4,.val (.one (.ptr 4 2 0))),(5,.val (.one (.ptr 5 3 0))),(6,.val (.one (.own 24 4 e.claims.length 3))),(26,.val (.one (.sh 5 e.claims.length (ar bj e.claims)))),(27,one (.int .i64 e.claims.length)),(28,one (.int .i64 i0))],mkH [(3,⟨1,50,1,1,bz a⟩),(4,⟨2,193,2,1,[.lit (.slice none 0 0),.lit (.slice none 0 0)]⟩),(5,⟨3,193,2,1,[.sh 1 (mem a).length (ar cI (mem a)),.lit (.slice none 0 0)]⟩),(24,⟨4,32,3,e.claims.length,ar cQ (out++List.replicate (e.claims.length-i0) 0)⟩)],nx,0⟩) (e.claims.length) ⟨0,[],_,by omega,by omega,by rfl,(by first|omega|assumption|rfl|simp|(simp;omega)),rfl⟩ ?_;rintro n0 st ⟨i0,out,nx0,hk0,rfl,hL0,hV0_1,rfl⟩;by_cases hlt0:i0<e.claims.length
 ·have hI0:(i0:Int)<(e.claims.length:Int):=by omega
  have hat0:=aO dk e.claims i0 hlt0;try rw [Nat.mul_one] at hat0
  rw [List.drop_eq_getElem_cons hlt0] at hL0;have hca:=hB.am _ (List.getElem_mem hlt0);generalize e.claims[i0]=c at *
  simp only [List.map_cons] at hL0;refine awN ?_;simp only [F51,seval,hI0];refine awT ?_;refine awK ?_;simp only [F51,seval];refine awN ?_;simp only [F51,seval,hI0,hat0,bj];repeat refine ob ?_
  have hA0:=FZ c.amount gZ K 1 hca ⟨by decide,by decide⟩ (by omega) (by decide) hK0 (by decide);rw [ml,Rat.add_zero] at hA0;simp only [ai,gZ] at hA0;have hXl:(out++List.replicate (e.claims.length-i0) 0).length=e.claims.length:=by simp;omega
  have hset:=dJ bV (out++List.replicate (e.claims.length-i0) 0) i0 (qOf c.amount) (by omega);have hXs:(out++List.replicate (e.claims.length-i0) 0).set i0 (qOf c.amount)=out++[qOf c.amount]++List.replicate (e.claims.length-(i0+1)) 0:=by
   rw [List.set_append_right _ _ (by omega),hV0_1,Nat.sub_self,show e.claims.length-i0=(e.claims.length-(i0+1))+1 by omega,List.replicate_succ,List.set_cons_zero,List.append_assoc];try rfl
  rw [hXs] at hset;have hfl:=be bV (out++List.replicate (e.claims.length-i0) 0);rw [hXl] at hfl;simp only [cQ,ai] at hset;refine awN ?_;simp only [F51,seval];refine ⟨_,hA0,(by first|rfl|simp [a8,aK,al,aw,A1.cells,ab bm]),?_⟩;try simp only [ak,F51,seval,hI0,hset,hfl]
  repeat refine ob ?_
  refine awN ?_;simp only [F51,seval];repeat refine ob ?_
  refine ⟨_,aC [3,4,5,6,26,27,28] [3,4,5,24],e.claims.length-(i0+1),by omega,i0+1,(out++[qOf c.amount]),?a8_nx,by omega,rfl,?i8_0,?i8_1,?st8⟩;case st8=>(simp only [F51,seval,bz];first|rfl|(simp [bz,hI0,hat0,Nat.add_mul];done))
  case i8_0=>(simpa using hL0)
  all_goals (first|omega|assumption|(simp;omega)|(simp_all;done))
 obtain rfl:i0=e.claims.length:=by omega
 have hI0:¬(e.claims.length:Int)<(e.claims.length:Int):=by omega
 rw [List.drop_length] at hL0;simp only [List.map_nil,List.append_nil] at hL0;subst hL0;refine awN ?_;simp only [F51,seval,hI0];refine awF ?_;refine awQ ?_;simp only [F51,seval];refine awN ?_;simp only [F51,seval,bz];refine fK 5 1 93 _ 190 4 (by decide) (by rfl) (by decide) (by simp) (by rfl) ?_;have hV1a:∀y∈(e.claims.map fun c=>qOf c.amount),qB (K+0*(K+1)) y:=fun y hy=>by
  obtain ⟨c,h1,rfl⟩:=List.mem_map.1 hy;exact ((hB.am c h1).qB hK0).mono (by omega)
 have hrl:∀l:List Rat,l++List.replicate (e.claims.length-e.claims.length) 0=l:=fun l=>by simp
 simp only [F51,seval,hrl];refine aS [4,5,6,42,43,44] [4,5,24,93] ?_;try simp only [ak,F51,seval]
 repeat' first|apply awS|apply awB
 refine aM (fun n st=>∃i1 out rest w s9 nx,i1<=a.length/\n=a.length-i1/\lyS out (a.drop i1) rest=lyS [] a (e.claims.map fun c:GClaim=>qOf c.amount)/\out.length=i1/\rest.length=e.claims.length/\(∀y∈rest,qB (K+w*(K+1)) y)/\w+pN (a.drop i1)=pN a/\st=⟨mkT [(4,.val (.one (.ptr 4 2 0))),(5,.val (.one (.ptr 5 3 0))),(6,.val (.one (.own 24 4 e.claims.length 3))),(42,.val (.one (.sh 1 a.length (ar bF a)))),(43,one (.int .i64 a.length)),(44,one (.int .i64 i1))],mkH [(4,⟨2,193,2,1,[.lit (.slice none 0 0),.lit (.slice none 0 0)]⟩),(5,⟨3,193,2,1,[.sh 1 (mem a).length (ar cI (mem a)),.own 93 s9 out.length 4]⟩),(24,⟨4,32,3,e.claims.length,ar cQ rest⟩),(93,⟨s9,190,4,out.length,ar cWT out⟩)],nx,0⟩) (a.length) ⟨0,[],(e.claims.map fun c:GClaim=>qOf c.amount),0,_,_,by omega,by omega,by rfl,(by first|omega|assumption|rfl|simp|(simp;omega)),(by first|omega|assumption|rfl|simp|(simp;omega)),(by first|omega|assumption|rfl|simp|(simp;omega)),(by first|omega|assumption|rfl|simp|(simp;omega)),rfl⟩ ?_;rintro n1 st ⟨i1,out,rest,w,s9,nx1,hk1,rfl,hL1,hV1_1,hV1_2,hV1_3,hV1_4,rfl⟩;by_cases hlt1:i1<a.length
 ·have hI1:(i1:Int)<(a.length:Int):=by omega
  have hat1:=aO eP a i1 hlt1;try rw [Nat.mul_one] at hat1
  rw [List.drop_eq_getElem_cons hlt1] at hL1;have hpt:=hB.pn _ (List.getElem_mem hlt1);have hR1n:=hV1_2;have hR1:=hV1_3;have hw0:=hV1_4;rw [List.drop_eq_getElem_cons hlt1] at hw0;simp only [pN] at hw0;have hmw:(w+(a[i1]).length)*(K+1)=w*(K+1)+(a[i1]).length*(K+1):=Nat.add_mul _ _ _;have hm1:(w+(a[i1]).length)*(K+1)<=pN a*(K+1):=Nat.mul_le_mul_right _ (by omega);generalize a[i1]=t at *
  simp only [xi] at hL1;refine awN ?_;simp only [F51,seval,hI1];refine awT ?_;refine awK ?_;simp only [F51,seval];refine awN ?_;simp only [F51,seval,hI1,hat1,bF];repeat refine ob ?_
  refine awN ?_;simp only [F51,seval];refine awN ?_;simp only [F51,seval];refine fK 11 0 3015 _ 230 4 (by decide) (by rfl) (by decide) (by simp) (by rfl) ?_;refine ch (dl 11 (tcs [] [] (.own 3015 _ 0 4) (enc (au []))) (by rfl) (by show (4:Nat)≠0;decide) (by rfl) (fun κ vs h=>qQ _ h)) ?_;simp only [F51,seval];have hV2a:∀y∈rest,qB (K+w*(K+1)+0*(K+1)) y:=fun y hy=>(hR1 y hy).mono (by omega)
  refine aS [4,5,6,42,43,44,10,11,48,49,50] [4,5,24,93,11,3015] ?_;try simp only [ak,F51,seval]
  repeat' first|apply awS|apply awB
  refine aM (fun n st=>∃i2 tr rest2 sp nx,i2<=t.length/\n=t.length-i2/\lyT tr (t.drop i2) rest2=lyT [] t rest/\tr.length=i2/\rest2.length=e.claims.length/\(∀y∈rest2,qB (K+w*(K+1)+i2*(K+1)) y)/\(∀p∈tr,qB Km p.2)/\st=⟨mkT [(4,.val (.one (.ptr 4 2 0))),(5,.val (.one (.ptr 5 3 0))),(6,.val (.one (.own 24 4 e.claims.length 3))),(42,.val (.one (.sh 1 a.length (ar bF a)))),(43,one (.int .i64 a.length)),(44,one (.int .i64 i1)),(10,.val (.one (.sh 5 t.length (ar bA t)))),(11,.val (.one (.ptr 11 (nx1+0) 0))),(48,.val (.one (.sh 5 t.length (ar bA t)))),(49,one (.int .i64 t.length)),(50,one (.int .i64 i2))],mkH [(4,⟨2,193,2,1,[.lit (.slice none 0 0),.lit (.slice none 0 0)]⟩),(5,⟨3,193,2,1,[.sh 1 (mem a).length (ar cI (mem a)),.own 93 s9 out.length 4]⟩),(24,⟨4,32,3,e.claims.length,ar cQ rest2⟩),(93,⟨s9,190,4,out.length,ar cWT out⟩),(11,⟨nx1+0,190,4,1,tcs [] [] (.own 3015 sp tr.length 4) (enc (au tr))⟩),(3015,⟨sp,230,4,tr.length,ar cWP tr⟩)],nx,0⟩) (t.length) ⟨0,[],rest,_,_,by omega,by omega,by rfl,(by first|omega|assumption|rfl|simp|(simp;omega)),(by first|omega|assumption|rfl|simp|(simp;omega)),(by first|omega|assumption|rfl|simp|(simp;omega)),(by first|omega|assumption|rfl|simp|(simp;omega)),rfl⟩ ?_;rintro n2 st ⟨i2,tr,rest2,sp,nx2,hk2,rfl,hL2,hV2_1,hV2_2,hV2_3,hV2_4,rfl⟩;by_cases hlt2:i2<t.length
  ·have hI2:(i2:Int)<(t.length:Int):=by omega
   have hat2:=aO fZ t i2 hlt2;try rw [Nat.mul_one] at hat2
   rw [List.drop_eq_getElem_cons hlt2] at hL2;have hxx:=hpt.2 _ (List.getElem_mem hlt2);have hxc:=hxx.1;have hxs:=hxx.2;have htl:=hV2_1;have hRn:=hV2_2;have hR2:=hV2_3;have hTq:=hV2_4;have hmul:(i2+1)*(K+1)<=t.length*(K+1):=Nat.mul_le_mul_right _ hlt2;have hmul1:(i2+1)*(K+1)=i2*(K+1)+(K+1):=Nat.succ_mul _ _;have hSm:∀tr:WT,(∀p∈tr,qB Km p.2)->tr.length<=1000->qB 50000000000 (au tr):=fun tr h1 h2=>(lm tr h1).mono (by have:=Nat.mul_le_mul h2 (show Km+1<=10000001 by omega);omega)
   have hSm:=hSm tr hTq (by have:=hpt.1;omega);have hcm: -1<=(t[i2]).claim/\(t[i2]).claim<=1000000:=by rcases hxc with h|h<;>omega
   generalize t[i2]=x at *
   simp only [xh] at hL2;refine awN ?_;simp only [F51,seval,hI2];refine awT ?_;refine awK ?_;simp only [F51,seval];refine awN ?_;simp only [F51,seval,hI2,hat2,bA];repeat refine ob ?_
   by_cases hc:x.claim= -1
   ·refine awN ?_;simp only [F51,seval,hc];refine awT ?_;have hA:=FZ x.cap gZ K 1 hxs ⟨by decide,by decide⟩ (by omega) (by decide) hK0 (by decide);rw [ml,Rat.add_zero] at hA;simp only [ai,gZ] at hA;have hwp:cV rest2 x=(rest2,qOf x.cap):=by unfold cV;rw [if_pos hc]
    have hq9:qB 50000000000 (qOf x.cap):=(hxs.qB hK0).mono (by omega);have hnT:∀p∈tr++[(x.claim,qOf x.cap)],qB Km p.2:=fun p hp=>by
     rcases List.mem_append.1 hp with h|h
     ·exact hTq p h
     simp only [List.mem_singleton] at h;subst h;exact (hxs.qB hK0).mono (by omega)
    have hnR:∀y∈rest2,qB (K+w*(K+1)+(i2+1)*(K+1)) y:=fun y hy=>(hR2 y hy).mono (by omega)
    refine awR [61] [0,0,0,0,0] ?_;simp only [F51,seval];refine ⟨_,hA,(by first|rfl|simp [a8,aK,al,aw,A1.cells,ab bm]),?_⟩;try simp only [ak,F51,seval]
    refine ⟨_,qO _ _ 11 (nx1+0) 4 1 3015 sp 190 [] [] tr (-1) (qOf x.cap) (by decide) (by rfl) (by rfl) (by decide) (fun k h1 h2=>by refine ⟨?_,?_,?_,?_⟩<;>(simp;omega)) (by decide) (fun y B h=>?_) (by omega) (by omega) hSm hq9,?_⟩
    ·by_cases hy:y<3000∨3015<=y
     ·exact hy
     exfalso;simp only [ap] at h;repeat rw [if_neg (by omega)] at h
     cases h
    rintro res H' nx' ⟨rfl,hW⟩;simp only [F51,seval];refine cq hW ?_;simp only [F51,seval];refine awQ ?_;simp only [F51,seval];refine awN ?_;simp only [F51,seval];repeat refine ob ?_
    refine ⟨_,aC [4,5,6,42,43,44,10,11,48,49,50] [4,5,24,93,11,3015],t.length-(i2+1),by omega,i2+1,(tr++[(x.claim,qOf x.cap)]),(rest2),?a20_sp,?a20_nx,by omega,rfl,?i20_0,?i20_1,?i20_2,?i20_3,?i20_4,?st20⟩;case st20=>(simp only [F51,seval,eb,aG,cWP,List.length_append,ai,hc];first|rfl|(simp [eb,aG,cWP,List.length_append,List.length_cons,List.length_nil,hI0,hI1,hat1,hI2,hat2,hc,Nat.add_mul];done))
    case i20_0=>(rw [←hL2,hwp])
    all_goals (first|omega|assumption|(simp;omega)|(simp_all;done))
   refine awN ?_;simp only [F51,seval,hc];refine awF ?_;refine awK ?_;simp only [F51,seval];obtain ⟨k,hxk⟩:∃k:Nat,x.claim=(k:Int):=⟨x.claim.toNat,by rcases hxc with h|h<;>omega⟩;have hkl:k<rest2.length:=by rcases hxc with h|h<;>omega
   have hkt:x.claim.toNat=k:=by omega
   have hatk:=aO bV rest2 k hkl;have hgk:rest2.getD x.claim.toNat 0=rest2[k]:=by rw [hxk,Int.toNat_natCast,List.getD_eq_getElem?_getD,List.getElem?_eq_getElem hkl];rfl
   have hgB:=hR2 _ (List.getElem_mem hkl);simp only [cQ,ai] at hatk;have hfl:=be bV rest2;rw [hRn] at hfl;refine awN ?_;simp only [F51,seval,hatk,hfl,hkt];repeat refine ob ?_
   by_cases hcap:x.capped=true
   ·refine awN ?_;simp only [F51,seval,hcap];refine awT ?_;have hMin:=Ki (enc rest2[k]) x.cap _ K (dj hgB) hxs (by omega) (by omega) hgB.pos hK0;rw [cc] at hMin;simp only [ai] at hMin;refine awN ?_;simp only [F51,seval];refine ⟨_,hMin,(by first|rfl|simp [a8,aK,al,aw,A1.cells,ab bm]),?_⟩;try simp only [ak,F51,seval]
    obtain ⟨hPB1,hPB2⟩:=lz hR2 (hxs.qB hK0) (by omega) (by omega);have hwp:cV rest2 x=(rest2.set k (rest2[k]-bT rest2[k] (qOf x.cap)),bT rest2[k] (qOf x.cap)):=by unfold cV;rw [if_neg hc,hgk,hxk,Int.toNat_natCast];simp only [hcap,if_true]
    rw [hwp] at hPB1 hPB2;simp only at hPB1 hPB2;have hSub:=AP rest2[k] (bT rest2[k] (qOf x.cap)) _ _ hgB hPB2 (by omega) (by omega);simp only [ai] at hSub;have hset:=dJ bV rest2 k (rest2[k]-bT rest2[k] (qOf x.cap)) hkl;simp only [cQ,ai] at hset;have hq9:qB 50000000000 (bT rest2[k] (qOf x.cap)):=hPB2.mono (by omega);have hnT:∀p∈tr++[(x.claim,bT rest2[k] (qOf x.cap))],qB Km p.2:=fun p hp=>by
     rcases List.mem_append.1 hp with h|h
     ·exact hTq p h
     simp only [List.mem_singleton] at h;subst h;exact hPB2.mono (by omega)
    have hnR:∀y∈rest2.set k (rest2[k]-bT rest2[k] (qOf x.cap)),qB (K+w*(K+1)+(i2+1)*(K+1)) y:=fun y hy=>(hPB1 y hy).mono (by omega)
    refine awD (scT 0 9 (scq [18,21,22] .nil)) [0,0,0,0,0,0,0,0,0,0,0,0] ?_;simp only [F51,seval,hatk,hfl,hkt];repeat refine ob ?_
    refine ⟨_,hSub,(by first|rfl|simp [a8,aK,al,aw,A1.cells,ab bm]),?_⟩;try simp only [ak,F51,seval,hfl,hset,hkt]
    repeat refine ob ?_
    refine awR [87] [0,0,0,0] ?_;simp only [F51,seval];refine ⟨_,qO _ _ 11 (nx1+0) 4 1 3015 sp 190 [] [] tr x.claim (bT rest2[k] (qOf x.cap)) (by decide) (by rfl) (by rfl) (by decide) (fun k h1 h2=>by refine ⟨?_,?_,?_,?_⟩<;>(simp;omega)) (by decide) (fun y B h=>?_) (by omega) (by omega) hSm hq9,?_⟩
    ·by_cases hy:y<3000∨3015<=y
     ·exact hy
     exfalso;simp only [ap] at h;repeat rw [if_neg (by omega)] at h
     cases h
    rintro res H' nx' ⟨rfl,hW⟩;simp only [F51,seval];refine cq hW ?_;simp only [F51,seval];refine awN ?_;simp only [F51,seval];repeat refine ob ?_
    refine ⟨_,aC [4,5,6,42,43,44,10,11,48,49,50] [4,5,24,93,11,3015],t.length-(i2+1),by omega,i2+1,(tr++[(x.claim,bT rest2[k] (qOf x.cap))]),(rest2.set k (rest2[k]-bT rest2[k] (qOf x.cap))),?a28_sp,?a28_nx,by omega,rfl,?i28_0,?i28_1,?i28_2,?i28_3,?i28_4,?st28⟩;case st28=>(simp only [F51,seval,eb,aG,cWP,List.length_append,ai];first|rfl|(simp [eb,aG,cWP,List.length_append,List.length_cons,List.length_nil,hI0,hI1,hat1,hI2,hat2,hc,hcap,Nat.add_mul];done))
    case i28_0=>(rw [←hL2,hwp])
    all_goals (first|omega|assumption|(simp;omega)|(simp_all;done))
   refine awN ?_;simp only [F51,seval,hcap];refine awF ?_;refine awK ?_;simp only [F51,seval];obtain ⟨hPB1,hPB2⟩:=lz hR2 (hxs.qB hK0) (by omega) (by omega);have hwp:cV rest2 x=(rest2.set k (rest2[k]-rest2[k]),rest2[k]):=by unfold cV;rw [if_neg hc,hgk,hxk,Int.toNat_natCast];simp only [hcap,if_false,Bool.false_eq_true]
   rw [hwp] at hPB1 hPB2;simp only at hPB1 hPB2;have hSub:=AP rest2[k] (rest2[k]) _ _ hgB hPB2 (by omega) (by omega);simp only [ai] at hSub;have hset:=dJ bV rest2 k (rest2[k]-rest2[k]) hkl;simp only [cQ,ai] at hset;have hq9:qB 50000000000 (rest2[k]):=hPB2.mono (by omega);have hnT:∀p∈tr++[(x.claim,rest2[k])],qB Km p.2:=fun p hp=>by
    rcases List.mem_append.1 hp with h|h
    ·exact hTq p h
    simp only [List.mem_singleton] at h;subst h;exact hPB2.mono (by omega)
   have hnR:∀y∈rest2.set k (rest2[k]-rest2[k]),qB (K+w*(K+1)+(i2+1)*(K+1)) y:=fun y hy=>(hPB1 y hy).mono (by omega)
   refine awD (scT 0 9 (scq [18,21,22] .nil)) [0,0,0,0,0,0,0,0,0,0,0,0] ?_;simp only [F51,seval,hatk,hfl,hkt];repeat refine ob ?_
   refine ⟨_,hSub,(by first|rfl|simp [a8,aK,al,aw,A1.cells,ab bm]),?_⟩;try simp only [ak,F51,seval,hfl,hset,hkt]
   repeat refine ob ?_
   refine awR [87] [0,0,0,0] ?_;simp only [F51,seval];refine ⟨_,qO _ _ 11 (nx1+0) 4 1 3015 sp 190 [] [] tr x.claim (rest2[k]) (by decide) (by rfl) (by rfl) (by decide) (fun k h1 h2=>by refine ⟨?_,?_,?_,?_⟩<;>(simp;omega)) (by decide) (fun y B h=>?_) (by omega) (by omega) hSm hq9,?_⟩
   ·by_cases hy:y<3000∨3015<=y
    ·exact hy
    exfalso;simp only [ap] at h;repeat rw [if_neg (by omega)] at h
    cases h
   rintro res H' nx' ⟨rfl,hW⟩;simp only [F51,seval];refine cq hW ?_;simp only [F51,seval];refine awN ?_;simp only [F51,seval];repeat refine ob ?_
   refine ⟨_,aC [4,5,6,42,43,44,10,11,48,49,50] [4,5,24,93,11,3015],t.length-(i2+1),by omega,i2+1,(tr++[(x.claim,rest2[k])]),(rest2.set k (rest2[k]-rest2[k])),?a33_sp,?a33_nx,by omega,rfl,?i33_0,?i33_1,?i33_2,?i33_3,?i33_4,?st33⟩;case st33=>(simp only [F51,seval,eb,aG,cWP,List.length_append,ai];first|rfl|(simp [eb,aG,cWP,List.length_append,List.length_cons,List.length_nil,hI0,hI1,hat1,hI2,hat2,hc,hcap,Nat.add_mul];done))
   case i33_0=>(rw [←hL2,hwp])
   all_goals (first|omega|assumption|(simp;omega)|(simp_all;done))
  obtain rfl:i2=t.length:=by omega
  have hI2:¬(t.length:Int)<(t.length:Int):=by omega
  rw [List.drop_length] at hL2;simp only [AR] at hL2;have hwt:cy t rest=(rest2,tr):=by
   have h:=hL2;simp only [lyT,List.nil_append] at h;rw [Prod.ext_iff] at h;exact Prod.ext h.2.symm h.1.symm
  have hV2e:∀y∈rest2,qB (K+(w+t.length)*(K+1)) y:=fun y hy=>(hV2_3 y hy).mono (by omega)
  refine awN ?_;simp only [F51,seval,hI2];refine awF ?_;refine awQ ?_;simp only [F51,seval];refine bE 3015 11 0 (by rfl) (by rfl) (by rfl) (by decide) (by show (4:Nat)≠0;decide) (by show (4:Nat)≠0;decide) rfl ?_;simp only [F51,seval];refine awN ?_;simp only [F51,seval,ai,tcs];repeat refine ob ?_
  refine awN ?_;simp only [F51,seval];repeat refine ob ?_
  refine ⟨_,aC [4,5,6,42,43,44] [4,5,24,93],a.length-(i1+1),by omega,i1+1,(out++[tr]),(rest2),(w+t.length),?a37_s9,?a37_nx,by omega,rfl,?i37_0,?i37_1,?i37_2,?i37_3,?i37_4,?st37⟩;case st37=>(simp only [F51,seval,aG,cWT,List.length_append,ai];first|rfl|(simp [aG,cWT,List.length_append,List.length_cons,List.length_nil,hI0,hI1,hat1,hI2,Nat.add_mul];done))
  case i37_0=>(rw [←hL1,hwt])
  all_goals (first|omega|assumption|(simp;omega)|(simp_all;done))
 obtain rfl:i1=a.length:=by omega
 have hI1:¬(a.length:Int)<(a.length:Int):=by omega
 rw [List.drop_length] at hL1;simp only [AS] at hL1;have hwm:w*(K+1)<=pN a*(K+1):=Nat.mul_le_mul_right _ (by omega);have hwts:bD a (e.claims.map fun c=>qOf c.amount)=(rest,out):=by
  have h:=hL1;simp only [lyS,List.nil_append] at h;rw [Prod.ext_iff] at h;exact Prod.ext h.2.symm h.1.symm
 refine awN ?_;simp only [F51,seval,hI1];refine awF ?_;refine awQ ?_;simp only [F51,seval];refine awN ?_;simp only [F51,seval];refine awN ?_;simp only [F51,seval];refine fK 15 0 3015 _ 230 4 (by decide) (by rfl) (by decide) (by simp) (by rfl) ?_;refine ch (dl 15 (tcs [] [] (.own 3015 _ 0 4) (enc (au []))) (by rfl) (by show (4:Nat)≠0;decide) (by rfl) (fun κ vs h=>qQ _ h)) ?_;simp only [F51,seval];refine aS [4,5,6,15,97,98,99] [4,5,24,93,15,3015] ?_;try simp only [ak,F51,seval]
 repeat' first|apply awS|apply awB
 refine aM (fun n st=>∃i3 la sp nx,i3<=(mem a).length/\n=(mem a).length-i3/\la++fa ((mem a).drop i3) rest=[]++fa (mem a) rest/\la.length=i3/\(∀p∈la,qB Km p.2)/\st=⟨mkT [(4,.val (.one (.ptr 4 2 0))),(5,.val (.one (.ptr 5 3 0))),(6,.val (.one (.own 24 4 e.claims.length 3))),(15,.val (.one (.ptr 15 (nx1+0) 0))),(97,.val (.one (.sh 1 (mem a).length (ar cI (mem a))))),(98,one (.int .i64 (mem a).length)),(99,one (.int .i64 i3))],mkH [(4,⟨2,193,2,1,[.lit (.slice none 0 0),.lit (.slice none 0 0)]⟩),(5,⟨3,193,2,1,[.sh 1 (mem a).length (ar cI (mem a)),.own 93 s9 out.length 4]⟩),(24,⟨4,32,3,e.claims.length,ar cQ rest⟩),(93,⟨s9,190,4,out.length,ar cWT out⟩),(15,⟨nx1+0,190,4,1,tcs [] [] (.own 3015 sp la.length 4) (enc (au la))⟩),(3015,⟨sp,230,4,la.length,ar cWP la⟩)],nx,0⟩) ((mem a).length) ⟨0,[],_,_,by omega,by omega,by rfl,(by first|omega|assumption|rfl|simp|(simp;omega)),(by first|omega|assumption|rfl|simp|(simp;omega)),rfl⟩ ?_;rintro n3 st ⟨i3,la,sp,nx3,hk3,rfl,hL3,hV3_1,hV3_2,rfl⟩;by_cases hlt3:i3<(mem a).length
 ·have hI3:(i3:Int)<((mem a).length:Int):=by omega
  have hat3:=aO nL (mem a) i3 hlt3;try rw [Nat.mul_one] at hat3
  rw [List.drop_eq_getElem_cons hlt3] at hL3;have hxi:=hB.mi _ (List.getElem_mem hlt3);have hlal:=hV3_1;have hlaq:=hV3_2;obtain ⟨k,hxk⟩:∃k:Nat,(mem a)[i3]=(k:Int):=⟨((mem a)[i3]).toNat,by omega⟩;have hkl:k<rest.length:=by omega
  have hkt:((mem a)[i3]).toNat=k:=by omega
  have hatk:=aO bV rest k hkl;have hgk:rest.getD ((mem a)[i3]).toNat 0=rest[k]:=by rw [hxk,Int.toNat_natCast,List.getD_eq_getElem?_getD,List.getElem?_eq_getElem hkl];rfl
  have hgB:=hV1_3 _ (List.getElem_mem hkl);simp only [cQ,ai] at hatk;have hfl:=be bV rest;rw [hV1_2] at hfl;have hSm:qB 50000000000 (au la):=(lm la hlaq).mono (by have h3:=Nat.mul_le_mul (show la.length<=1000 by omega) (show Km+1<=10000001 by omega);omega);have hq9:qB 50000000000 rest[k]:=hgB.mono (by omega);have hKq:qB Km rest[k]:=hgB.mono (by omega);have hnT:∀p∈la++[((mem a)[i3],rest[k])],qB Km p.2:=fun p hp=>by
   rcases List.mem_append.1 hp with h|h
   ·exact hlaq p h
   simp only [List.mem_singleton] at h;subst h;exact hKq
  generalize (mem a)[i3]=x at *
  simp only [qP] at hL3;refine awN ?_;simp only [F51,seval,hI3];refine awT ?_;refine awK ?_;simp only [F51,seval];refine awN ?_;simp only [F51,seval,hI3,hat3,cI];repeat refine ob ?_
  refine awR [108] [0,0,0,0,0,0] ?_;simp only [F51,seval,hatk,hfl,hkt];repeat refine ob ?_
  refine ⟨_,qO _ _ 15 (nx1+0) 4 1 3015 sp 190 [] [] la x rest[k] (by decide) (by rfl) (by rfl) (by decide) (fun k h1 h2=>by refine ⟨?_,?_,?_,?_⟩<;>(simp;omega)) (by decide) (fun y B h=>?_) (by omega) (by omega) hSm hq9,?_⟩
  ·by_cases hy:y<3000∨3015<=y
   ·exact hy
   exfalso;simp only [ap] at h;repeat rw [if_neg (by omega)] at h
   cases h
  rintro res H' nx' ⟨rfl,hW⟩;simp only [F51,seval];refine cq hW ?_;simp only [F51,seval];refine awN ?_;simp only [F51,seval];repeat refine ob ?_
  refine ⟨_,aC [4,5,6,15,97,98,99] [4,5,24,93,15,3015],(mem a).length-(i3+1),by omega,i3+1,(la++[(x,rest[k])]),?a45_sp,?a45_nx,by omega,rfl,?i45_0,?i45_1,?i45_2,?st45⟩;case st45=>(simp only [F51,seval,eb,aG,cWP,List.length_append,ai];first|rfl|(simp [eb,aG,cWP,List.length_append,List.length_cons,List.length_nil,hI0,hI1,hI3,hat3,Nat.add_mul];done))
  case i45_0=>(have h:=hL3;rw [hgk] at h;simpa using h)
  all_goals (first|omega|assumption|(simp;omega)|(simp_all;done))
 obtain rfl:i3=(mem a).length:=by omega
 have hI3:¬((mem a).length:Int)<((mem a).length:Int):=by omega
 rw [List.drop_length] at hL3;simp only [Co,List.append_nil] at hL3;have hla:=hL3;refine awN ?_;simp only [F51,seval,hI3];refine awF ?_;refine awQ ?_;simp only [F51,seval];refine bE 3015 15 0 (by rfl) (by rfl) (by rfl) (by decide) (by show (4:Nat)≠0;decide) (by show (4:Nat)≠0;decide) rfl ?_;simp only [F51,seval];refine awN ?_;simp only [F51,seval,ai,tcs];repeat refine ob ?_
 refine bE 114 5 1 (by rfl) (by rfl) (by rfl) (by decide) (by show (4:Nat)≠0;decide) (by show (2:Nat)≠0;decide) rfl ?_;simp only [F51,seval];refine awN ?_;simp only [F51,seval];refine awX ?_;simp only [F51,seval,ab bm];simp [ba,hwts,dv,hla,aG,cWT,ai,cw,al,aw,ab bN,ab az]
end Go.Proofs.YtokmkopihhnggaaGreatDoor
