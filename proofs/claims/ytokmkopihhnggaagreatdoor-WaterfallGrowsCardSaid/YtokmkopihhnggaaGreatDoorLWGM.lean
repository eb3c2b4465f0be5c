/- WaterfallGrows: the law's own function; walked by the abstract machine. -/
import Derived.Test.YtokmkopihhnggaaGreatDoorWe1M
import Derived.Test.YtokmkopihhnggaaGreatDoorAbWM
set_option linter.unusedVariables false
set_option maxHeartbeats 4000000
set_option maxRecDepth 100000
set_option linter.unusedSimpArgs false
set_option linter.defProp false
namespace Go.Proofs.YtokmkopihhnggaaGreatDoor
open Go Go.RowKit Go.Proofs.Tryz
theorem Ps (p q:Rat) (hp:qB 50000000000 p) (hq:qB 50000000000 q):aR prog 36 [.agg (ai (enc p)),.agg (ai (enc q))] (.val (.agg (ai (enc (bC p q))))):=by
 have h:=Ij (enc p) (enc q) 50000000000 50000000000 (dT hp) (dT hq) (by decide) (by decide) (by decide) (by decide);rwa [ci,ci] at h
theorem Pz {cs:List GClaim} (hc:∀c∈cs,sB 1 c.amount/\enc (qOf c.amount)=c.amount) (hn:cs.length<=6):qB 50000000000 (cn cs):=by
 have h:∀cs:List GClaim,(∀c∈cs,sB 1 c.amount/\enc (qOf c.amount)=c.amount)->qB (1+cs.length*2) (cn cs):=by
  intro cs;induction cs with
  |nil=>intro _;simpa [cn] using bW
  |cons c cs ih=>
   intro h;have h1:=ih fun x hx=>h x (by simp [hx])
   refine (((h c (by simp)).1.qB (by decide)).add h1).mono ?_;simp only [List.length_cons];omega
 exact (h cs hc).mono (by omega)
def F72:=And.intro zS (And.intro EB (And.intro EC (And.intro pt (And.intro cD (And.intro Ez (H5))))))
theorem F73:type_of%F72:=F72
theorem PV (list:List N4) (pools:List N3) (money OB:Nat) (hls:qU Kp list) (hps:qU LR pools) (hm:money<65536) (hmo:OB<65536):aR prog 7 [.one (.sh 4 list.length (aA cN4 list)),.one (.sh 3 pools.length (aA cN3 pools)),.one (.lit (.int .u16 money)),.one (.lit (.int .u16 OB))] (one (.bool true)):=by
 have hl1:list.length<=9223372036854775807:=Nat.le_trans hls.1 (by decide);have hp1:pools.length<=9223372036854775807:=Nat.le_trans hps.1 (by decide);refine aP func7 rfl (by decide) (N:=113) rfl (by simp) (R:=[.tmp 8]) rfl fun en k0=>?_
 refine awN ?_;simp only [F73,seval,aJ,ai];repeat refine ob ?_
 have hE:=PU 0 list pools (by decide) hls.2 hps.2 hl1 hp1;have hI:=Py 0 list pools (M:=3) (by decide) (by decide);have h0:=OY 0 list pools;have heo:=Pm 0 list pools;have hcn:=(Ou 0 list pools).2.2.1;have hen:=(Ou 0 list pools).1.1;generalize Ot 0 list pools=e at *
 simp only [aJ] at hE;refine awN ?_;simp only [F73,seval,aJ,ai,ab ao,ab au,ab KM,ab KN,ab ap];repeat refine ob ?_
 refine ⟨_,hE,(by first|rfl|simp [aU,aD,al,ax,A1.cells,ab ap,ab ao,ab au]),?_⟩;try simp only [ak,F73,seval,aJ,ai,ab ao,ab au,ab KM,ab KN,ab ap]
 repeat refine ob ?_
 have hAm:=Oc money hm;have hmB:=OE money;have hm0:=Oq money;generalize pb money=m at *
 simp only [ai] at hAm;have hAn:=Oc OB hmo;have hoB:=OE OB;have ho0:=Oq OB;generalize pb OB=d at *
 have hAd:=sj m d 1 1 hmB hoB (by decide) (by decide);have hnB:=hmB.add hoB;have hmn:m<=m+d:=by grind
 generalize m+d=nw at *
 have hn0:0<=nw:=Rat.le_trans hm0 hmn;simp only [ai] at hAn hAd;refine awN ?_;simp only [F73,seval,aJ,ai];repeat refine ob ?_
 refine ⟨_,hAm,(by first|rfl|simp [aU,aD,al,ax,A1.cells,ab ap,ab ao,ab au]),?_⟩;try simp only [ak,F73,seval,aJ,ai]
 repeat refine ob ?_
 refine qd (M:=fun st=>∃nx,st=⟨mkT [(9,.val (.one (.ptr 9 0 0))),(10,.val (.one (.ptr 10 1 0))),(11,.val (.one (.ptr 11 2 0)))],mkH [(9,⟨0,36,5,1,aJ e⟩),(10,⟨1,32,3,1,ai (enc m)⟩),(11,⟨2,32,3,1,ai (enc nw)⟩)],nx,0⟩) ?_ ?_
 ·refine awD (scq [1,3] (.two 2 4 (.two 3 4 (scq [8,10] .nil) (scq [6,10] .nil)) (scq [4,6,10] .nil))) [0,0,0,0,0,0] ?_;simp only [F73,seval,aJ,ai];repeat refine ob ?_
  refine ⟨?_,?_⟩
  ·repeat refine ob ?_
   refine ⟨_,hAn,(by first|rfl|simp [aU,aD,al,ax,A1.cells,ab ap,ab ao,ab au]),?_⟩;try simp only [ak,F73,seval,aJ,ai]
   repeat refine ob ?_
   refine ⟨?_,?_⟩
   ·repeat refine ob ?_
    refine ⟨_,hAd,(by first|rfl|simp [aU,aD,al,ax,A1.cells,ab ap,ab ao,ab au]),?_⟩;try simp only [ak,F73,seval,aJ,ai]
    repeat refine ob ?_
    intro zc zQ hM;refine cm (aI [9,10,11] [9,10,11]) (hM _ ⟨?_,?cs4⟩);case cs4=>(simp only [F73,seval];rfl)
   repeat refine ob ?_
   refine ⟨_,hAd,(by first|rfl|simp [aU,aD,al,ax,A1.cells,ab ap,ab ao,ab au]),?_⟩;try simp only [ak,F73,seval,aJ,ai]
   repeat refine ob ?_
   intro zc zQ hM;refine cm (aI [9,10,11] [9,10,11]) (hM _ ⟨?_,?cs5⟩);case cs5=>(simp only [F73,seval];rfl)
  repeat refine ob ?_
  refine ⟨_,hAn,(by first|rfl|simp [aU,aD,al,ax,A1.cells,ab ap,ab ao,ab au]),?_⟩;try simp only [ak,F73,seval,aJ,ai]
  repeat refine ob ?_
  refine ⟨_,hAd,(by first|rfl|simp [aU,aD,al,ax,A1.cells,ab ap,ab ao,ab au]),?_⟩;try simp only [ak,F73,seval,aJ,ai]
  repeat refine ob ?_
  intro zc zQ hM;refine cm (aI [9,10,11] [9,10,11]) (hM _ ⟨?_,?cs6⟩);case cs6=>(simp only [F73,seval];rfl)
 rintro st ⟨ny,rfl⟩;have hD1:=yb e (enc m) 1 3 6 2 hI (dT (hmB.mono (by decide)));rw [OM hm0] at hD1;have hD2:=yb e (enc nw) 1 3 6 2 hI (dT hnB);rw [OM hn0] at hD2;have hT:=Ph e 1 3 6 2 hI;simp only [dlR,ttR,h0,if_true,aJ,ai] at hD1 hD2 hT;have hdl1:(eQ (az e) m).cl.length=e.claims.length:=pG _ _;have hdl2:(eQ (az e) nw).cl.length=e.claims.length:=pG _ _;have hB1:=Pp hI h0 (hmB.mono (show 1<=3 by decide));have hB2:=Pp hI h0 hnB;have hs1:=OT (m:=m) heo hm0;have hs2:=OT (m:=nw) heo hn0;rw [OC heo.cl hm0] at hs1;rw [OC heo.cl hn0] at hs2;have hrs:=OG heo hm0 hmn;have hmono:=fun i=>Pa heo hm0 hmn i
 have htB:=Pz hcn hen;generalize cn e.claims=t at *
 obtain ⟨a,r,har⟩:∃l rv,eQ (az e) m=⟨l,rv⟩:=⟨_,_,rfl⟩;obtain ⟨b,s,hbs⟩:∃l rv,eQ (az e) nw=⟨l,rv⟩:=⟨_,_,rfl⟩;rw [har] at hD1 hdl1 hB1 hs1 hrs;rw [hbs] at hD2 hdl2 hB2 hs2 hrs;simp only [har,hbs] at hmono;simp only at hD1 hD2 hdl1 hdl2 hB1 hB2 hs1 hs2 hrs;refine awN ?_;simp only [F73,seval,aJ,ai,ab ao,ab au,ab KM,ab KN,ab ap];repeat refine ob ?_
 refine ⟨_,hD1,(by first|rfl|simp [aU,aD,al,ax,A1.cells,ab ap,ab ao,ab au]),?_⟩;try simp only [ak,F73,seval,aJ,ai,ab ao,ab au,ab KM,ab KN,ab ap]
 repeat refine ob ?_
 refine awN ?_;simp only [F73,seval,aJ,ai,ab ao,ab au,ab KM,ab KN,ab ap];repeat refine ob ?_
 refine ⟨_,hD2,(by first|rfl|simp [aU,aD,al,ax,A1.cells,ab ap,ab ao,ab au]),?_⟩;try simp only [ak,F73,seval,aJ,ai,ab ao,ab au,ab KM,ab KN,ab ap]
 repeat refine ob ?_
 refine awN ?_;simp only [F73,seval,aJ,ai,ab ao,ab au,ab KM,ab KN,ab ap];repeat refine ob ?_
 refine ⟨_,hT,(by first|rfl|simp [aU,aD,al,ax,A1.cells,ab ap,ab ao,ab au]),?_⟩;try simp only [ak,F73,seval,aJ,ai,ab ao,ab au,ab KM,ab KN,ab ap]
 repeat refine ob ?_
 have hCm:=Fp r s (hB1.2.mono (by decide)) (hB2.2.mono (by decide));have hrc:=Po hrs;simp only [ai] at hCm;refine awR [] [0,0,0,108,108,0,0,116,116,0,0,124,124,124,124,124,0,0,138,138,138,138,0] ?_;simp only [F73,seval,aJ,ai,ab ao,ab au,ab KM,ab KN,ab ap,hrc];repeat refine ob ?_
 refine ⟨_,hCm,(by first|rfl|simp [aU,aD,al,ax,A1.cells,ab ap,ab ao,ab au]),?_⟩;try simp only [ak,F73,seval,aJ,ai,ab ao,ab au,ab KM,ab KN,ab ap,hrc]
 repeat refine ob ?_
 refine awF ?_;refine awK ?_;simp only [F73,seval];refine awN ?_;simp only [F73,seval,aJ,ai];repeat refine ob ?_
 refine aQ [10,11,12,13,15,16,18,75,76] [10,11,13,16,18] ?_;try simp only [ak,F73,seval,aJ,ai]
 repeat' first|apply awS|apply awB
 refine aM (fun n st=>∃i0 nx,i0<=e.claims.length/\n=e.claims.length-i0/\st=⟨mkT [(10,.val (.one (.ptr 10 1 0))),(11,.val (.one (.ptr 11 2 0))),(12,.val (.one (.sh 3 e.claims.length (aA cQ a)))),(13,.val (.one (.ptr 13 ny 0))),(15,.val (.one (.sh 3 e.claims.length (aA cQ b)))),(16,.val (.one (.ptr 16 (ny+1) 0))),(18,.val (.one (.ptr 18 (ny+2) 0))),(75,one (.int .i64 e.claims.length)),(76,one (.int .i64 i0))],mkH [(10,⟨1,32,3,1,ai (enc m)⟩),(11,⟨2,32,3,1,ai (enc nw)⟩),(13,⟨ny,32,3,1,ai (enc r)⟩),(16,⟨ny+1,32,3,1,ai (enc s)⟩),(18,⟨ny+2,32,3,1,ai (enc t)⟩)],nx,0⟩) (e.claims.length) ⟨0,_,by omega,by omega,rfl⟩ ?_;rintro n0 st ⟨i0,nx0,hk0,rfl,rfl⟩;by_cases hlt0:i0<e.claims.length
 ·have hI0:(i0:Int)<(e.claims.length:Int):=by omega
  have hia:i0<a.length:=by omega
  have hib:i0<b.length:=by omega
  have hata:=aO bH a i0 hia;have hatb:=aO bH b i0 hib;simp only [cQ,ai] at hata hatb;have hcc:¬0<dM a[i0] b[i0]:=Po (by have:=hmono i0;rw [OZ hia,OZ hib] at this;exact this);refine awN ?_;simp only [F73,seval,aJ,ai,hI0];repeat refine ob ?_
  refine awT ?_;refine awK ?_;simp only [F73,seval];refine awN ?_;simp only [F73,seval,aJ,ai,hI0];repeat refine ob ?_
  have hCm:=Fp a[i0] b[i0] ((hB1.1 _ (List.getElem_mem hia)).mono (by decide)) ((hB2.1 _ (List.getElem_mem hib)).mono (by decide));simp only [ai] at hCm;refine awD (scT 0 8 (scq [16,19] .nil)) [0,0,0,0,0,0,0,0,0,0] ?_;simp only [F73,seval,aJ,ai,hI0,ab ao,ab au,ab KM,ab KN,ab ap,hata,hatb,hcc];repeat refine ob ?_
  refine ⟨_,hCm,(by first|rfl|simp [aU,aD,al,ax,A1.cells,ab ap,ab ao,ab au]),?_⟩;try simp only [ak,F73,seval,aJ,ai,hI0,ab ao,ab au,ab KM,ab KN,ab ap,hata,hatb,hcc]
  repeat refine ob ?_
  refine awF ?_;refine awK ?_;simp only [F73,seval];refine awN ?_;simp only [F73,seval,aJ,ai,hI0];repeat refine ob ?_
  repeat refine ob ?_
  refine ⟨_,aI [10,11,12,13,15,16,18,75,76] [10,11,13,16,18],e.claims.length-(i0+1),by omega,i0+1,?a16_nx,by omega,rfl,?st16⟩;case st16=>(simp only [F73,seval,aJ,ai,hI0];first|rfl|(simp [hI0,Nat.add_mul];done))
 obtain rfl:i0=e.claims.length:=by omega
 have hI0:¬(e.claims.length:Int)<(e.claims.length:Int):=by omega
 refine awN ?_;simp only [F73,seval,aJ,ai,hI0];repeat refine ob ?_
 refine awF ?_;refine awQ ?_;simp only [F73,seval];refine qd (M:=fun st=>∃s21 s22 nx,st=⟨mkT [(10,.val (.one (.ptr 10 1 0))),(11,.val (.one (.ptr 11 2 0))),(18,.val (.one (.ptr 18 (ny+2) 0))),(21,.val (.one (.ptr 21 s21 0))),(22,.val (.one (.ptr 22 s22 0)))],mkH [(10,⟨1,32,3,1,ai (enc m)⟩),(11,⟨2,32,3,1,ai (enc nw)⟩),(18,⟨ny+2,32,3,1,ai (enc t)⟩),(21,⟨s21,32,3,1,ai (enc (bC m t))⟩),(22,⟨s22,32,3,1,ai (enc (bC nw t))⟩)],nx,0⟩) ?_ ?_
 ·have hS1:=PJ a e.claims.length hdl1 (kD 3) hB1.1 (by decide) (by omega) (by have h9:kD 3=872122510:=rfl;rw [h9];omega);have hS2:=PJ b e.claims.length hdl2 (kD 3) hB2.1 (by decide) (by omega) (by have h9:kD 3=872122510:=rfl;rw [h9];omega);have hA1:=sj (jk a) r _ _ (Pq hB1.1 (show a.length<=6 by omega)) hB1.2 (by decide) (by decide);have hA2:=sj (jk b) s _ _ (Pq hB2.1 (show b.length<=6 by omega)) hB2.2 (by decide) (by decide);rw [hs1] at hA1;rw [hs2] at hA2;simp only [ai] at hS1 hS2 hA1 hA2;repeat' first|apply awS|apply awB
  refine Lj [] (by kernel_rfl) (.take 0 (.take 2 (.take 4 (.take 6 (.alt 1 (.alt 3 (.alt 5 (.alt 7 (.alt 8 (.alt 9 (.alt 10 (.alt 11 .nil .none) .none) .none) (.alt 9 (.alt 8 (.alt 10 (.alt 11 .nil .none) .none) .none) .none)) (.alt 8 (.alt 7 (.alt 9 (.alt 10 (.alt 11 .nil .none) .none) .none) (.alt 9 (.alt 7 (.alt 10 (.alt 11 .nil .none) .none) .none) .none)) (.alt 9 (.alt 7 (.alt 8 (.alt 10 (.alt 11 .nil .none) .none) .none) (.alt 8 (.alt 7 (.alt 10 (.alt 11 .nil .none) .none) .none) .none)) .none))) (.alt 8 (.alt 5 (.alt 7 (.alt 9 (.alt 10 (.alt 11 .nil .none) .none) .none) (.alt 9 (.alt 7 (.alt 10 (.alt 11 .nil .none) .none) .none) .none)) (.alt 9 (.alt 5 (.alt 7 (.alt 10 (.alt 11 .nil .none) .none) .none) .none) .none)) (.alt 9 (.alt 5 (.alt 7 (.alt 8 (.alt 10 (.alt 11 .nil .none) .none) .none) (.alt 8 (.alt 7 (.alt 10 (.alt 11 .nil .none) .none) .none) .none)) (.alt 8 (.alt 5 (.alt 7 (.alt 10 (.alt 11 .nil .none) .none) .none) .none) .none)) .none))) (.alt 8 (.alt 3 (.alt 5 (.alt 7 (.alt 9 (.alt 10 (.alt 11 .nil .none) .none) .none) (.alt 9 (.alt 7 (.alt 10 (.alt 11 .nil .none) .none) .none) .none)) (.alt 9 (.alt 5 (.alt 7 (.alt 10 (.alt 11 .nil .none) .none) .none) .none) .none)) (.alt 9 (.alt 3 (.alt 5 (.alt 7 (.alt 10 (.alt 11 .nil .none) .none) .none) .none) .none) .none)) (.alt 9 (.alt 3 (.alt 5 (.alt 7 (.alt 8 (.alt 10 (.alt 11 .nil .none) .none) .none) (.alt 8 (.alt 7 (.alt 10 (.alt 11 .nil .none) .none) .none) .none)) (.alt 8 (.alt 5 (.alt 7 (.alt 10 (.alt 11 .nil .none) .none) .none) .none) .none)) (.alt 8 (.alt 3 (.alt 5 (.alt 7 (.alt 10 (.alt 11 .nil .none) .none) .none) .none) .none) .none)) .none))) (.alt 8 (.alt 1 (.alt 3 (.alt 5 (.alt 7 (.alt 9 (.alt 10 (.alt 11 .nil .none) .none) .none) (.alt 9 (.alt 7 (.alt 10 (.alt 11 .nil .none) .none) .none) .none)) (.alt 9 (.alt 5 (.alt 7 (.alt 10 (.alt 11 .nil .none) .none) .none) .none) .none)) (.alt 9 (.alt 3 (.alt 5 (.alt 7 (.alt 10 (.alt 11 .nil .none) .none) .none) .none) .none) .none)) (.alt 9 (.alt 1 (.alt 3 (.alt 5 (.alt 7 (.alt 10 (.alt 11 .nil .none) .none) .none) .none) .none) .none) .none)) (.alt 9 (.alt 1 (.alt 3 (.alt 5 (.alt 7 (.alt 8 (.alt 10 (.alt 11 .nil .none) .none) .none) (.alt 8 (.alt 7 (.alt 10 (.alt 11 .nil .none) .none) .none) .none)) (.alt 8 (.alt 5 (.alt 7 (.alt 10 (.alt 11 .nil .none) .none) .none) .none) .none)) (.alt 8 (.alt 3 (.alt 5 (.alt 7 (.alt 10 (.alt 11 .nil .none) .none) .none) .none) .none) .none)) (.alt 8 (.alt 1 (.alt 3 (.alt 5 (.alt 7 (.alt 10 (.alt 11 .nil .none) .none) .none) .none) .none) .none) .none)) .none))))))) (by kernel_rfl) (gs:=[none,none,none,none,none,none,none,none,none,none,none,none]) (by kernel_rfl) (by simp only [(id SS),(id SW),seval,reduceIte,ne_eq];rfl) (by decide) ?_;simp only [F73,seval,aJ,ai,hI0,ab ao,ab au,ab KM,ab KN,ab ap,(id SW),and_true,and_self,false_and];repeat refine ob ?_
  refine ⟨?_,?_,?_⟩
  ·repeat refine ob ?_
   refine ⟨_,hS1,(by first|rfl|simp [aU,aD,al,ax,A1.cells,ab ap,ab ao,ab au]),?_⟩;try simp only [ak,F73,seval,aJ,ai,hI0,ab ao,ab au,ab KM,ab KN,ab ap,(id SW),and_true,and_self,false_and]
   repeat refine ob ?_
   refine ⟨?_,?_,?_⟩
   ·repeat refine ob ?_
    refine ⟨_,hA1,(by first|rfl|simp [aU,aD,al,ax,A1.cells,ab ap,ab ao,ab au]),?_⟩;try simp only [ak,F73,seval,aJ,ai,hI0,ab ao,ab au,ab KM,ab KN,ab ap,(id SW),and_true,and_self,false_and]
    repeat refine ob ?_
    refine ⟨?_,?_,?_⟩
    ·repeat refine ob ?_
     refine ⟨_,hS2,(by first|rfl|simp [aU,aD,al,ax,A1.cells,ab ap,ab ao,ab au]),?_⟩;try simp only [ak,F73,seval,aJ,ai,hI0,ab ao,ab au,ab KM,ab KN,ab ap,(id SW),and_true,and_self,false_and]
     repeat refine ob ?_
     refine ⟨?_,?_,?_⟩
     ·repeat refine ob ?_
      refine ⟨_,hA2,(by first|rfl|simp [aU,aD,al,ax,A1.cells,ab ap,ab ao,ab au]),?_⟩;try simp only [ak,F73,seval,aJ,ai,hI0,ab ao,ab au,ab KM,ab KN,ab ap,(id SW),and_true,and_self,false_and]
      repeat refine ob ?_
      refine ⟨?_,?_⟩
      ·repeat refine ob ?_
       intro zc zQ hM;refine cm (aI [10,11,18,21,22] [10,11,18,21,22]) (hM _ ⟨?_,?_,?_,?cs19⟩);case cs19=>(simp only [F73,seval];rfl)
      repeat refine ob ?_
      intro zc zQ hM;refine cm (aI [10,11,18,21,22] [10,11,18,21,22]) (hM _ ⟨?_,?_,?_,?cs20⟩);case cs20=>(simp only [F73,seval];rfl)
     ·repeat refine ob ?_
      refine ⟨?_,?_⟩
      ·repeat refine ob ?_
       refine ⟨_,hA2,(by first|rfl|simp [aU,aD,al,ax,A1.cells,ab ap,ab ao,ab au]),?_⟩;try simp only [ak,F73,seval,aJ,ai,hI0,ab ao,ab au,ab KM,ab KN,ab ap,(id SW),and_true,and_self,false_and]
       repeat refine ob ?_
       intro zc zQ hM;refine cm (aI [10,11,18,21,22] [10,11,18,21,22]) (hM _ ⟨?_,?_,?_,?cs21⟩);case cs21=>(simp only [F73,seval];rfl)
      repeat refine ob ?_
      refine ⟨_,hA2,(by first|rfl|simp [aU,aD,al,ax,A1.cells,ab ap,ab ao,ab au]),?_⟩;try simp only [ak,F73,seval,aJ,ai,hI0,ab ao,ab au,ab KM,ab KN,ab ap,(id SW),and_true,and_self,false_and]
      repeat refine ob ?_
      intro zc zQ hM;refine cm (aI [10,11,18,21,22] [10,11,18,21,22]) (hM _ ⟨?_,?_,?_,?cs22⟩);case cs22=>(simp only [F73,seval];rfl)
     repeat refine ob ?_
     refine ⟨?_,?_⟩
     ·repeat refine ob ?_
      refine ⟨_,hA2,(by first|rfl|simp [aU,aD,al,ax,A1.cells,ab ap,ab ao,ab au]),?_⟩;try simp only [ak,F73,seval,aJ,ai,hI0,ab ao,ab au,ab KM,ab KN,ab ap,(id SW),and_true,and_self,false_and]
      repeat refine ob ?_
      intro zc zQ hM;refine cm (aI [10,11,18,21,22] [10,11,18,21,22]) (hM _ ⟨?_,?_,?_,?cs23⟩);case cs23=>(simp only [F73,seval];rfl)
     repeat refine ob ?_
     refine ⟨_,hA2,(by first|rfl|simp [aU,aD,al,ax,A1.cells,ab ap,ab ao,ab au]),?_⟩;try simp only [ak,F73,seval,aJ,ai,hI0,ab ao,ab au,ab KM,ab KN,ab ap,(id SW),and_true,and_self,false_and]
     repeat refine ob ?_
     intro zc zQ hM;refine cm (aI [10,11,18,21,22] [10,11,18,21,22]) (hM _ ⟨?_,?_,?_,?cs24⟩);case cs24=>(simp only [F73,seval];rfl)
    ·repeat refine ob ?_
     refine ⟨?_,?_⟩
     ·repeat refine ob ?_
      refine ⟨_,hS2,(by first|rfl|simp [aU,aD,al,ax,A1.cells,ab ap,ab ao,ab au]),?_⟩;try simp only [ak,F73,seval,aJ,ai,hI0,ab ao,ab au,ab KM,ab KN,ab ap,(id SW),and_true,and_self,false_and]
      repeat refine ob ?_
      refine ⟨?_,?_⟩
      ·repeat refine ob ?_
       refine ⟨_,hA2,(by first|rfl|simp [aU,aD,al,ax,A1.cells,ab ap,ab ao,ab au]),?_⟩;try simp only [ak,F73,seval,aJ,ai,hI0,ab ao,ab au,ab KM,ab KN,ab ap,(id SW),and_true,and_self,false_and]
       repeat refine ob ?_
       intro zc zQ hM;refine cm (aI [10,11,18,21,22] [10,11,18,21,22]) (hM _ ⟨?_,?_,?_,?cs25⟩);case cs25=>(simp only [F73,seval];rfl)
      repeat refine ob ?_
      refine ⟨_,hA2,(by first|rfl|simp [aU,aD,al,ax,A1.cells,ab ap,ab ao,ab au]),?_⟩;try simp only [ak,F73,seval,aJ,ai,hI0,ab ao,ab au,ab KM,ab KN,ab ap,(id SW),and_true,and_self,false_and]
      repeat refine ob ?_
      intro zc zQ hM;refine cm (aI [10,11,18,21,22] [10,11,18,21,22]) (hM _ ⟨?_,?_,?_,?cs26⟩);case cs26=>(simp only [F73,seval];rfl)
     repeat refine ob ?_
     refine ⟨_,hS2,(by first|rfl|simp [aU,aD,al,ax,A1.cells,ab ap,ab ao,ab au]),?_⟩;try simp only [ak,F73,seval,aJ,ai,hI0,ab ao,ab au,ab KM,ab KN,ab ap,(id SW),and_true,and_self,false_and]
     repeat refine ob ?_
     refine ⟨_,hA2,(by first|rfl|simp [aU,aD,al,ax,A1.cells,ab ap,ab ao,ab au]),?_⟩;try simp only [ak,F73,seval,aJ,ai,hI0,ab ao,ab au,ab KM,ab KN,ab ap,(id SW),and_true,and_self,false_and]
     repeat refine ob ?_
     intro zc zQ hM;refine cm (aI [10,11,18,21,22] [10,11,18,21,22]) (hM _ ⟨?_,?_,?_,?cs27⟩);case cs27=>(simp only [F73,seval];rfl)
    repeat refine ob ?_
    refine ⟨?_,?_⟩
    ·repeat refine ob ?_
     refine ⟨_,hS2,(by first|rfl|simp [aU,aD,al,ax,A1.cells,ab ap,ab ao,ab au]),?_⟩;try simp only [ak,F73,seval,aJ,ai,hI0,ab ao,ab au,ab KM,ab KN,ab ap,(id SW),and_true,and_self,false_and]
     repeat refine ob ?_
     refine ⟨?_,?_⟩
     ·repeat refine ob ?_
      refine ⟨_,hA2,(by first|rfl|simp [aU,aD,al,ax,A1.cells,ab ap,ab ao,ab au]),?_⟩;try simp only [ak,F73,seval,aJ,ai,hI0,ab ao,ab au,ab KM,ab KN,ab ap,(id SW),and_true,and_self,false_and]
      repeat refine ob ?_
      intro zc zQ hM;refine cm (aI [10,11,18,21,22] [10,11,18,21,22]) (hM _ ⟨?_,?_,?_,?cs28⟩);case cs28=>(simp only [F73,seval];rfl)
     repeat refine ob ?_
     refine ⟨_,hA2,(by first|rfl|simp [aU,aD,al,ax,A1.cells,ab ap,ab ao,ab au]),?_⟩;try simp only [ak,F73,seval,aJ,ai,hI0,ab ao,ab au,ab KM,ab KN,ab ap,(id SW),and_true,and_self,false_and]
     repeat refine ob ?_
     intro zc zQ hM;refine cm (aI [10,11,18,21,22] [10,11,18,21,22]) (hM _ ⟨?_,?_,?_,?cs29⟩);case cs29=>(simp only [F73,seval];rfl)
    repeat refine ob ?_
    refine ⟨_,hS2,(by first|rfl|simp [aU,aD,al,ax,A1.cells,ab ap,ab ao,ab au]),?_⟩;try simp only [ak,F73,seval,aJ,ai,hI0,ab ao,ab au,ab KM,ab KN,ab ap,(id SW),and_true,and_self,false_and]
    repeat refine ob ?_
    refine ⟨_,hA2,(by first|rfl|simp [aU,aD,al,ax,A1.cells,ab ap,ab ao,ab au]),?_⟩;try simp only [ak,F73,seval,aJ,ai,hI0,ab ao,ab au,ab KM,ab KN,ab ap,(id SW),and_true,and_self,false_and]
    repeat refine ob ?_
    intro zc zQ hM;refine cm (aI [10,11,18,21,22] [10,11,18,21,22]) (hM _ ⟨?_,?_,?_,?cs30⟩);case cs30=>(simp only [F73,seval];rfl)
   ·repeat refine ob ?_
    refine ⟨?_,?_⟩
    ·repeat refine ob ?_
     refine ⟨_,hA1,(by first|rfl|simp [aU,aD,al,ax,A1.cells,ab ap,ab ao,ab au]),?_⟩;try simp only [ak,F73,seval,aJ,ai,hI0,ab ao,ab au,ab KM,ab KN,ab ap,(id SW),and_true,and_self,false_and]
     repeat refine ob ?_
     refine ⟨?_,?_⟩
     ·repeat refine ob ?_
      refine ⟨_,hS2,(by first|rfl|simp [aU,aD,al,ax,A1.cells,ab ap,ab ao,ab au]),?_⟩;try simp only [ak,F73,seval,aJ,ai,hI0,ab ao,ab au,ab KM,ab KN,ab ap,(id SW),and_true,and_self,false_and]
      repeat refine ob ?_
      refine ⟨?_,?_⟩
      ·repeat refine ob ?_
       refine ⟨_,hA2,(by first|rfl|simp [aU,aD,al,ax,A1.cells,ab ap,ab ao,ab au]),?_⟩;try simp only [ak,F73,seval,aJ,ai,hI0,ab ao,ab au,ab KM,ab KN,ab ap,(id SW),and_true,and_self,false_and]
       repeat refine ob ?_
       intro zc zQ hM;refine cm (aI [10,11,18,21,22] [10,11,18,21,22]) (hM _ ⟨?_,?_,?_,?cs31⟩);case cs31=>(simp only [F73,seval];rfl)
      repeat refine ob ?_
      refine ⟨_,hA2,(by first|rfl|simp [aU,aD,al,ax,A1.cells,ab ap,ab ao,ab au]),?_⟩;try simp only [ak,F73,seval,aJ,ai,hI0,ab ao,ab au,ab KM,ab KN,ab ap,(id SW),and_true,and_self,false_and]
      repeat refine ob ?_
      intro zc zQ hM;refine cm (aI [10,11,18,21,22] [10,11,18,21,22]) (hM _ ⟨?_,?_,?_,?cs32⟩);case cs32=>(simp only [F73,seval];rfl)
     repeat refine ob ?_
     refine ⟨_,hS2,(by first|rfl|simp [aU,aD,al,ax,A1.cells,ab ap,ab ao,ab au]),?_⟩;try simp only [ak,F73,seval,aJ,ai,hI0,ab ao,ab au,ab KM,ab KN,ab ap,(id SW),and_true,and_self,false_and]
     repeat refine ob ?_
     refine ⟨_,hA2,(by first|rfl|simp [aU,aD,al,ax,A1.cells,ab ap,ab ao,ab au]),?_⟩;try simp only [ak,F73,seval,aJ,ai,hI0,ab ao,ab au,ab KM,ab KN,ab ap,(id SW),and_true,and_self,false_and]
     repeat refine ob ?_
     intro zc zQ hM;refine cm (aI [10,11,18,21,22] [10,11,18,21,22]) (hM _ ⟨?_,?_,?_,?cs33⟩);case cs33=>(simp only [F73,seval];rfl)
    repeat refine ob ?_
    refine ⟨_,hA1,(by first|rfl|simp [aU,aD,al,ax,A1.cells,ab ap,ab ao,ab au]),?_⟩;try simp only [ak,F73,seval,aJ,ai,hI0,ab ao,ab au,ab KM,ab KN,ab ap,(id SW),and_true,and_self,false_and]
    repeat refine ob ?_
    refine ⟨_,hS2,(by first|rfl|simp [aU,aD,al,ax,A1.cells,ab ap,ab ao,ab au]),?_⟩;try simp only [ak,F73,seval,aJ,ai,hI0,ab ao,ab au,ab KM,ab KN,ab ap,(id SW),and_true,and_self,false_and]
    repeat refine ob ?_
    refine ⟨_,hA2,(by first|rfl|simp [aU,aD,al,ax,A1.cells,ab ap,ab ao,ab au]),?_⟩;try simp only [ak,F73,seval,aJ,ai,hI0,ab ao,ab au,ab KM,ab KN,ab ap,(id SW),and_true,and_self,false_and]
    repeat refine ob ?_
    intro zc zQ hM;refine cm (aI [10,11,18,21,22] [10,11,18,21,22]) (hM _ ⟨?_,?_,?_,?cs34⟩);case cs34=>(simp only [F73,seval];rfl)
   repeat refine ob ?_
   refine ⟨?_,?_⟩
   ·repeat refine ob ?_
    refine ⟨_,hA1,(by first|rfl|simp [aU,aD,al,ax,A1.cells,ab ap,ab ao,ab au]),?_⟩;try simp only [ak,F73,seval,aJ,ai,hI0,ab ao,ab au,ab KM,ab KN,ab ap,(id SW),and_true,and_self,false_and]
    repeat refine ob ?_
    refine ⟨?_,?_⟩
    ·repeat refine ob ?_
     refine ⟨_,hS2,(by first|rfl|simp [aU,aD,al,ax,A1.cells,ab ap,ab ao,ab au]),?_⟩;try simp only [ak,F73,seval,aJ,ai,hI0,ab ao,ab au,ab KM,ab KN,ab ap,(id SW),and_true,and_self,false_and]
     repeat refine ob ?_
     refine ⟨?_,?_⟩
     ·repeat refine ob ?_
      refine ⟨_,hA2,(by first|rfl|simp [aU,aD,al,ax,A1.cells,ab ap,ab ao,ab au]),?_⟩;try simp only [ak,F73,seval,aJ,ai,hI0,ab ao,ab au,ab KM,ab KN,ab ap,(id SW),and_true,and_self,false_and]
      repeat refine ob ?_
      intro zc zQ hM;refine cm (aI [10,11,18,21,22] [10,11,18,21,22]) (hM _ ⟨?_,?_,?_,?cs35⟩);case cs35=>(simp only [F73,seval];rfl)
     repeat refine ob ?_
     refine ⟨_,hA2,(by first|rfl|simp [aU,aD,al,ax,A1.cells,ab ap,ab ao,ab au]),?_⟩;try simp only [ak,F73,seval,aJ,ai,hI0,ab ao,ab au,ab KM,ab KN,ab ap,(id SW),and_true,and_self,false_and]
     repeat refine ob ?_
     intro zc zQ hM;refine cm (aI [10,11,18,21,22] [10,11,18,21,22]) (hM _ ⟨?_,?_,?_,?cs36⟩);case cs36=>(simp only [F73,seval];rfl)
    repeat refine ob ?_
    refine ⟨_,hS2,(by first|rfl|simp [aU,aD,al,ax,A1.cells,ab ap,ab ao,ab au]),?_⟩;try simp only [ak,F73,seval,aJ,ai,hI0,ab ao,ab au,ab KM,ab KN,ab ap,(id SW),and_true,and_self,false_and]
    repeat refine ob ?_
    refine ⟨_,hA2,(by first|rfl|simp [aU,aD,al,ax,A1.cells,ab ap,ab ao,ab au]),?_⟩;try simp only [ak,F73,seval,aJ,ai,hI0,ab ao,ab au,ab KM,ab KN,ab ap,(id SW),and_true,and_self,false_and]
    repeat refine ob ?_
    intro zc zQ hM;refine cm (aI [10,11,18,21,22] [10,11,18,21,22]) (hM _ ⟨?_,?_,?_,?cs37⟩);case cs37=>(simp only [F73,seval];rfl)
   repeat refine ob ?_
   refine ⟨_,hA1,(by first|rfl|simp [aU,aD,al,ax,A1.cells,ab ap,ab ao,ab au]),?_⟩;try simp only [ak,F73,seval,aJ,ai,hI0,ab ao,ab au,ab KM,ab KN,ab ap,(id SW),and_true,and_self,false_and]
   repeat refine ob ?_
   refine ⟨_,hS2,(by first|rfl|simp [aU,aD,al,ax,A1.cells,ab ap,ab ao,ab au]),?_⟩;try simp only [ak,F73,seval,aJ,ai,hI0,ab ao,ab au,ab KM,ab KN,ab ap,(id SW),and_true,and_self,false_and]
   repeat refine ob ?_
   refine ⟨_,hA2,(by first|rfl|simp [aU,aD,al,ax,A1.cells,ab ap,ab ao,ab au]),?_⟩;try simp only [ak,F73,seval,aJ,ai,hI0,ab ao,ab au,ab KM,ab KN,ab ap,(id SW),and_true,and_self,false_and]
   repeat refine ob ?_
   intro zc zQ hM;refine cm (aI [10,11,18,21,22] [10,11,18,21,22]) (hM _ ⟨?_,?_,?_,?cs38⟩);case cs38=>(simp only [F73,seval];rfl)
  ·repeat refine ob ?_
   refine ⟨?_,?_⟩
   ·repeat refine ob ?_
    refine ⟨_,hS1,(by first|rfl|simp [aU,aD,al,ax,A1.cells,ab ap,ab ao,ab au]),?_⟩;try simp only [ak,F73,seval,aJ,ai,hI0,ab ao,ab au,ab KM,ab KN,ab ap,(id SW),and_true,and_self,false_and]
    repeat refine ob ?_
    refine ⟨?_,?_⟩
    ·repeat refine ob ?_
     refine ⟨_,hA1,(by first|rfl|simp [aU,aD,al,ax,A1.cells,ab ap,ab ao,ab au]),?_⟩;try simp only [ak,F73,seval,aJ,ai,hI0,ab ao,ab au,ab KM,ab KN,ab ap,(id SW),and_true,and_self,false_and]
     repeat refine ob ?_
     refine ⟨?_,?_⟩
     ·repeat refine ob ?_
      refine ⟨_,hS2,(by first|rfl|simp [aU,aD,al,ax,A1.cells,ab ap,ab ao,ab au]),?_⟩;try simp only [ak,F73,seval,aJ,ai,hI0,ab ao,ab au,ab KM,ab KN,ab ap,(id SW),and_true,and_self,false_and]
      repeat refine ob ?_
      refine ⟨?_,?_⟩
      ·repeat refine ob ?_
       refine ⟨_,hA2,(by first|rfl|simp [aU,aD,al,ax,A1.cells,ab ap,ab ao,ab au]),?_⟩;try simp only [ak,F73,seval,aJ,ai,hI0,ab ao,ab au,ab KM,ab KN,ab ap,(id SW),and_true,and_self,false_and]
       repeat refine ob ?_
       intro zc zQ hM;refine cm (aI [10,11,18,21,22] [10,11,18,21,22]) (hM _ ⟨?_,?_,?_,?cs39⟩);case cs39=>(simp only [F73,seval];rfl)
      repeat refine ob ?_
      refine ⟨_,hA2,(by first|rfl|simp [aU,aD,al,ax,A1.cells,ab ap,ab ao,ab au]),?_⟩;try simp only [ak,F73,seval,aJ,ai,hI0,ab ao,ab au,ab KM,ab KN,ab ap,(id SW),and_true,and_self,false_and]
      repeat refine ob ?_
      intro zc zQ hM;refine cm (aI [10,11,18,21,22] [10,11,18,21,22]) (hM _ ⟨?_,?_,?_,?cs40⟩);case cs40=>(simp only [F73,seval];rfl)
     repeat refine ob ?_
     refine ⟨_,hS2,(by first|rfl|simp [aU,aD,al,ax,A1.cells,ab ap,ab ao,ab au]),?_⟩;try simp only [ak,F73,seval,aJ,ai,hI0,ab ao,ab au,ab KM,ab KN,ab ap,(id SW),and_true,and_self,false_and]
     repeat refine ob ?_
     refine ⟨_,hA2,(by first|rfl|simp [aU,aD,al,ax,A1.cells,ab ap,ab ao,ab au]),?_⟩;try simp only [ak,F73,seval,aJ,ai,hI0,ab ao,ab au,ab KM,ab KN,ab ap,(id SW),and_true,and_self,false_and]
     repeat refine ob ?_
     intro zc zQ hM;refine cm (aI [10,11,18,21,22] [10,11,18,21,22]) (hM _ ⟨?_,?_,?_,?cs41⟩);case cs41=>(simp only [F73,seval];rfl)
    repeat refine ob ?_
    refine ⟨_,hA1,(by first|rfl|simp [aU,aD,al,ax,A1.cells,ab ap,ab ao,ab au]),?_⟩;try simp only [ak,F73,seval,aJ,ai,hI0,ab ao,ab au,ab KM,ab KN,ab ap,(id SW),and_true,and_self,false_and]
    repeat refine ob ?_
    refine ⟨_,hS2,(by first|rfl|simp [aU,aD,al,ax,A1.cells,ab ap,ab ao,ab au]),?_⟩;try simp only [ak,F73,seval,aJ,ai,hI0,ab ao,ab au,ab KM,ab KN,ab ap,(id SW),and_true,and_self,false_and]
    repeat refine ob ?_
    refine ⟨_,hA2,(by first|rfl|simp [aU,aD,al,ax,A1.cells,ab ap,ab ao,ab au]),?_⟩;try simp only [ak,F73,seval,aJ,ai,hI0,ab ao,ab au,ab KM,ab KN,ab ap,(id SW),and_true,and_self,false_and]
    repeat refine ob ?_
    intro zc zQ hM;refine cm (aI [10,11,18,21,22] [10,11,18,21,22]) (hM _ ⟨?_,?_,?_,?cs42⟩);case cs42=>(simp only [F73,seval];rfl)
   repeat refine ob ?_
   refine ⟨_,hS1,(by first|rfl|simp [aU,aD,al,ax,A1.cells,ab ap,ab ao,ab au]),?_⟩;try simp only [ak,F73,seval,aJ,ai,hI0,ab ao,ab au,ab KM,ab KN,ab ap,(id SW),and_true,and_self,false_and]
   repeat refine ob ?_
   refine ⟨_,hA1,(by first|rfl|simp [aU,aD,al,ax,A1.cells,ab ap,ab ao,ab au]),?_⟩;try simp only [ak,F73,seval,aJ,ai,hI0,ab ao,ab au,ab KM,ab KN,ab ap,(id SW),and_true,and_self,false_and]
   repeat refine ob ?_
   refine ⟨_,hS2,(by first|rfl|simp [aU,aD,al,ax,A1.cells,ab ap,ab ao,ab au]),?_⟩;try simp only [ak,F73,seval,aJ,ai,hI0,ab ao,ab au,ab KM,ab KN,ab ap,(id SW),and_true,and_self,false_and]
   repeat refine ob ?_
   refine ⟨_,hA2,(by first|rfl|simp [aU,aD,al,ax,A1.cells,ab ap,ab ao,ab au]),?_⟩;try simp only [ak,F73,seval,aJ,ai,hI0,ab ao,ab au,ab KM,ab KN,ab ap,(id SW),and_true,and_self,false_and]
   repeat refine ob ?_
   intro zc zQ hM;refine cm (aI [10,11,18,21,22] [10,11,18,21,22]) (hM _ ⟨?_,?_,?_,?cs43⟩);case cs43=>(simp only [F73,seval];rfl)
  repeat refine ob ?_
  refine ⟨?_,?_⟩
  ·repeat refine ob ?_
   refine ⟨_,hS1,(by first|rfl|simp [aU,aD,al,ax,A1.cells,ab ap,ab ao,ab au]),?_⟩;try simp only [ak,F73,seval,aJ,ai,hI0,ab ao,ab au,ab KM,ab KN,ab ap,(id SW),and_true,and_self,false_and]
   repeat refine ob ?_
   refine ⟨?_,?_⟩
   ·repeat refine ob ?_
    refine ⟨_,hA1,(by first|rfl|simp [aU,aD,al,ax,A1.cells,ab ap,ab ao,ab au]),?_⟩;try simp only [ak,F73,seval,aJ,ai,hI0,ab ao,ab au,ab KM,ab KN,ab ap,(id SW),and_true,and_self,false_and]
    repeat refine ob ?_
    refine ⟨?_,?_⟩
    ·repeat refine ob ?_
     refine ⟨_,hS2,(by first|rfl|simp [aU,aD,al,ax,A1.cells,ab ap,ab ao,ab au]),?_⟩;try simp only [ak,F73,seval,aJ,ai,hI0,ab ao,ab au,ab KM,ab KN,ab ap,(id SW),and_true,and_self,false_and]
     repeat refine ob ?_
     refine ⟨?_,?_⟩
     ·repeat refine ob ?_
      refine ⟨_,hA2,(by first|rfl|simp [aU,aD,al,ax,A1.cells,ab ap,ab ao,ab au]),?_⟩;try simp only [ak,F73,seval,aJ,ai,hI0,ab ao,ab au,ab KM,ab KN,ab ap,(id SW),and_true,and_self,false_and]
      repeat refine ob ?_
      intro zc zQ hM;refine cm (aI [10,11,18,21,22] [10,11,18,21,22]) (hM _ ⟨?_,?_,?_,?cs44⟩);case cs44=>(simp only [F73,seval];rfl)
     repeat refine ob ?_
     refine ⟨_,hA2,(by first|rfl|simp [aU,aD,al,ax,A1.cells,ab ap,ab ao,ab au]),?_⟩;try simp only [ak,F73,seval,aJ,ai,hI0,ab ao,ab au,ab KM,ab KN,ab ap,(id SW),and_true,and_self,false_and]
     repeat refine ob ?_
     intro zc zQ hM;refine cm (aI [10,11,18,21,22] [10,11,18,21,22]) (hM _ ⟨?_,?_,?_,?cs45⟩);case cs45=>(simp only [F73,seval];rfl)
    repeat refine ob ?_
    refine ⟨_,hS2,(by first|rfl|simp [aU,aD,al,ax,A1.cells,ab ap,ab ao,ab au]),?_⟩;try simp only [ak,F73,seval,aJ,ai,hI0,ab ao,ab au,ab KM,ab KN,ab ap,(id SW),and_true,and_self,false_and]
    repeat refine ob ?_
    refine ⟨_,hA2,(by first|rfl|simp [aU,aD,al,ax,A1.cells,ab ap,ab ao,ab au]),?_⟩;try simp only [ak,F73,seval,aJ,ai,hI0,ab ao,ab au,ab KM,ab KN,ab ap,(id SW),and_true,and_self,false_and]
    repeat refine ob ?_
    intro zc zQ hM;refine cm (aI [10,11,18,21,22] [10,11,18,21,22]) (hM _ ⟨?_,?_,?_,?cs46⟩);case cs46=>(simp only [F73,seval];rfl)
   repeat refine ob ?_
   refine ⟨_,hA1,(by first|rfl|simp [aU,aD,al,ax,A1.cells,ab ap,ab ao,ab au]),?_⟩;try simp only [ak,F73,seval,aJ,ai,hI0,ab ao,ab au,ab KM,ab KN,ab ap,(id SW),and_true,and_self,false_and]
   repeat refine ob ?_
   refine ⟨_,hS2,(by first|rfl|simp [aU,aD,al,ax,A1.cells,ab ap,ab ao,ab au]),?_⟩;try simp only [ak,F73,seval,aJ,ai,hI0,ab ao,ab au,ab KM,ab KN,ab ap,(id SW),and_true,and_self,false_and]
   repeat refine ob ?_
   refine ⟨_,hA2,(by first|rfl|simp [aU,aD,al,ax,A1.cells,ab ap,ab ao,ab au]),?_⟩;try simp only [ak,F73,seval,aJ,ai,hI0,ab ao,ab au,ab KM,ab KN,ab ap,(id SW),and_true,and_self,false_and]
   repeat refine ob ?_
   intro zc zQ hM;refine cm (aI [10,11,18,21,22] [10,11,18,21,22]) (hM _ ⟨?_,?_,?_,?cs47⟩);case cs47=>(simp only [F73,seval];rfl)
  repeat refine ob ?_
  refine ⟨_,hS1,(by first|rfl|simp [aU,aD,al,ax,A1.cells,ab ap,ab ao,ab au]),?_⟩;try simp only [ak,F73,seval,aJ,ai,hI0,ab ao,ab au,ab KM,ab KN,ab ap,(id SW),and_true,and_self,false_and]
  repeat refine ob ?_
  refine ⟨_,hA1,(by first|rfl|simp [aU,aD,al,ax,A1.cells,ab ap,ab ao,ab au]),?_⟩;try simp only [ak,F73,seval,aJ,ai,hI0,ab ao,ab au,ab KM,ab KN,ab ap,(id SW),and_true,and_self,false_and]
  repeat refine ob ?_
  refine ⟨_,hS2,(by first|rfl|simp [aU,aD,al,ax,A1.cells,ab ap,ab ao,ab au]),?_⟩;try simp only [ak,F73,seval,aJ,ai,hI0,ab ao,ab au,ab KM,ab KN,ab ap,(id SW),and_true,and_self,false_and]
  repeat refine ob ?_
  refine ⟨_,hA2,(by first|rfl|simp [aU,aD,al,ax,A1.cells,ab ap,ab ao,ab au]),?_⟩;try simp only [ak,F73,seval,aJ,ai,hI0,ab ao,ab au,ab KM,ab KN,ab ap,(id SW),and_true,and_self,false_and]
  repeat refine ob ?_
  intro zc zQ hM;refine cm (aI [10,11,18,21,22] [10,11,18,21,22]) (hM _ ⟨?_,?_,?_,?cs48⟩);case cs48=>(simp only [F73,seval];rfl)
 rintro st ⟨s21,s22,nx,rfl⟩;have hM1:=Ps m t (hmB.mono (by decide)) htB;have hM2:=Ps nw t (hnB.mono (by decide)) htB;simp only [ai] at hM1 hM2;have q1:=go (enc (bC m t));have q2:=gv (enc (bC m t));have q3:=go (enc (bC nw t));have q4:=gv (enc (bC nw t));refine awD (scq [0] (scT 1 4 (scq [10] (scT 6 6 (scq [24,27,29,31] .nil))))) [0,0,201,201,201,201,201,0,0,215,215,215,215,215,0,0] ?_;simp only [F73,seval,aJ,ai,hI0,ab ao,ab au,ab KM,ab KN,ab ap,q1,q2,q3,q4];repeat refine ob ?_
 refine ⟨_,nr,(by first|rfl|simp [aU,aD,al,ax,A1.cells,ab ap,ab ao,ab au]),?_⟩;try simp only [ak,F73,seval,aJ,ai,hI0,ab ao,ab au,ab KM,ab KN,ab ap,q1,q2,q3,q4]
 repeat refine ob ?_
 refine ⟨_,hM1,(by first|rfl|simp [aU,aD,al,ax,A1.cells,ab ap,ab ao,ab au]),?_⟩;try simp only [ak,F73,seval,aJ,ai,hI0,ab ao,ab au,ab KM,ab KN,ab ap,q1,q2,q3,q4]
 repeat refine ob ?_
 refine ⟨_,hM2,(by first|rfl|simp [aU,aD,al,ax,A1.cells,ab ap,ab ao,ab au]),?_⟩;try simp only [ak,F73,seval,aJ,ai,hI0,ab ao,ab au,ab KM,ab KN,ab ap,q1,q2,q3,q4]
 repeat refine ob ?_
 refine awX ?_;(first|(simp only [F73,seval,aJ,ai,hI0];done)|(simp only [F73,seval,aJ,ai];first|(simp [hI0];done)))
theorem Pt (v0 v1 v2 v3:Value) (list:List N4) (pools:List N3) (money OB:Nat) (W:World) (o0:rC (cSl 4 cN4) (qU Kp) W (LT W.heap.size) [v0] list) (o1:rC (cSl 3 cN3) (qU LR) W (LT W.heap.size) [v1] pools) (o2:rC Kl (·<65536) W (LT W.heap.size) [v2] money) (o3:rC Kl (·<65536) W (LT W.heap.size) [v3] OB):
  Calls prog 7 #[v0,v1,v2,v3] W fun e w'=>e= .returned (.bool true)/\Below W.heap.size W w':=by
 obtain ⟨h0,k0⟩:=Or o0 rfl;obtain ⟨h1,k1⟩:=Or o1 rfl;obtain ⟨h2,k2⟩:=Or o2 rfl;obtain ⟨h3,k3⟩:=Or o3 rfl;exact Ba (vs:=[v0,v1,v2,v3]) (PV list pools money OB k0 k1 k2 k3) ⟨h0,h1,h2,h3,trivial⟩
end Go.Proofs.YtokmkopihhnggaaGreatDoor
