/- What the reference's deliver does is what the program's layout does. No walk. -/
import Derived.Test.YtokmkopihhnggaaGreatDoorWr5M
import Derived.Test.YtokmkopihhnggaaGreatDoorWs3M
import Derived.Test.YtokmkopihhnggaaGreatDoorWl6M
import Derived.Test.YtokmkopihhnggaaGreatDoorWs2M
import Derived.Test.YtokmkopihhnggaaGreatDoorPl3M
set_option linter.unusedVariables false
set_option maxHeartbeats 4000000
set_option maxRecDepth 100000
set_option linter.unusedSimpArgs false
set_option linter.defProp false
namespace Go.Proofs.YtokmkopihhnggaaGreatDoor
open Go Go.RowKit Go.Proofs.Tryz
theorem qC {cs:List GClaim} {a:bR} (ha:aOK cs.length a):(aV cs a).1=rMs a cs.length 0:=ym fun t ht x hx=>(ha t ht x hx).1
theorem G5 {cs:List GClaim} {a:bR} (ha:aOK cs.length a) (g k:List Rat) (fl:List Bool):(rIn a g k cs 0 fl 0 0).2=(aK g (aV cs a).1,aK k (aV cs a).1):=by
 refine Prod.ext ?_ ?_
 ·rw [qy,qC ha];grind
 rw [qz,qC ha];grind
theorem G6 {s:RS} {d:Rat} (h:s.bnd=true):(s.kink d).bnd=true/\(s.kink d).room=bC s.room d:=by
 unfold RS.kink bC;rw [if_neg (by rw [h];decide)];split
 ·exact ⟨rfl,rfl⟩
 exact ⟨h,rfl⟩
theorem Ac (cs : List GClaim) (G : RS) (hg : rNN G.got.cl) (hk : rNN G.slo.cl) (hc : ∀ c ∈ cs, 0 ≤ qOf c.amount) : ∀ (l : List bR) (fl : List Bool) (S : RS), (∀ a ∈ l, aOK cs.length a) →
    (jM cs G l fl S).2.got = f6 G.got.cl (l.map (aV cs)) S.got ∧ (jM cs G l fl S).2.slo = dJ G.got.cl G.slo.cl (l.map (aV cs)) S.slo ∧ (S.bnd = true → (jM cs G l fl S).2.bnd = true ∧ (jM cs G l fl S).2.room = eF G.got.cl G.slo.cl (l.map (aV cs)) S.room) ∧ (S.bnd = false → (∀ a ∈ l, aK G.slo.cl (aV cs a).1 = 0) → (jM cs G l fl S).2.bnd = false)
  | [], fl, S, _ => ⟨rfl, rfl, fun h => ⟨h, rfl⟩, fun h _ => h⟩
  | a :: l, fl, S, ha => by
    have h0 := ha a (by simp)
    have hp := me h0 hc
    have hr := G5 h0 G.got.cl G.slo.cl fl
    have e := mA (aK G.slo.cl (aV cs a).1) (aV cs a).2 (aK G.got.cl (aV cs a).1) S (iZ hg _) hp.nn
    have hrn := iZ hk (aV cs a).1
    have hu : jM cs G (a :: l) fl S = jM cs G l (rIn a G.got.cl G.slo.cl cs 0 fl 0 0).1 (bP (aK G.slo.cl (aV cs a).1) (aV cs a).2 (aK G.got.cl (aV cs a).1) true S) := by rw [jM, hr]
    obtain ⟨i1, i2, i3, i4⟩ := Ac cs G hg hk hc l (rIn a G.got.cl G.slo.cl cs 0 fl 0 0).1 (bP (aK G.slo.cl (aV cs a).1) (aV cs a).2 (aK G.got.cl (aV cs a).1) true S) (fun x hx => ha x (by simp [hx]))
    rw [hu]
    generalize bP (aK G.slo.cl (aV cs a).1) (aV cs a).2 (aK G.got.cl (aV cs a).1) true S = T at *
    have hT1 : T.got = gJ (aV cs a).2 (aK G.got.cl (aV cs a).1) S.got := by
      rw [e]; split
      · rw [fW]
      rfl
    have hT2 : T.slo = cO (aV cs a).2 (aK G.got.cl (aV cs a).1) (aK G.slo.cl (aV cs a).1) S.slo := by
      rw [e]; split
      · rw [fX]
      rfl
    refine ⟨?_, ?_, fun hb => ?_, fun hb hz => ?_⟩
    · rw [i1, hT1]; rfl
    · rw [i2, hT2]; rfl
    · have hT : T.bnd = true ∧ T.room = if a8 (aV cs a).2 (aK G.got.cl (aV cs a).1) ∧ 0 < aK G.slo.cl (aV cs a).1 then bC S.room (cu (aV cs a).2 (aK G.got.cl (aV cs a).1) / aK G.slo.cl (aV cs a).1) else S.room := by
        by_cases ho : a8 (aV cs a).2 (aK G.got.cl (aV cs a).1) ∧ aK G.slo.cl (aV cs a).1 ≠ 0
        · rw [if_pos ho] at e
          rw [if_pos ⟨ho.1, by grind⟩, e]
          exact G6 hb
        rw [if_neg ho] at e
        rw [if_neg (fun h => ho ⟨h.1, by grind⟩), e]
        exact ⟨hb, rfl⟩
      obtain ⟨j1, j2⟩ := i3 hT.1
      refine ⟨j1, ?_⟩
      rw [j2, hT.2]; rfl
    refine i4 ?_ fun x hx => hz x (by simp [hx])
    rw [e, if_neg (fun h => h.2 (hz a (by simp)))]
    exact hb
theorem Bo (i:Int) (p:bX) (ps:List bX):i6 i (p::ps)↔i∈p.1∨i6 i ps:=by simp [i6]
theorem Ad (cs:List GClaim) (G:RS) (j:Nat):∀(l:List bR) (fl:List Bool) (S:RS),cs.length<=fl.length->(∀a∈l,aOK cs.length a)->((jM cs G l fl S).1.getD j false=true↔fl.getD j false=true∨i6 (j:Int) (l.map (aV cs)))
 |[],fl,S,_,_=>by simp [jM,i6]
 |a::l,fl,S,hn,ha=>by
  have h0:=ha a (by simp);rw [jM,Ad cs G j l _ _ (by rw [tX];exact hn) (fun x hx=>ha x (by simp [hx])),qA _ _ _ _ _ _ _ _ _ (by omega),List.map_cons,Bo,qC h0];exact or_assoc
theorem nj (G:RS) (fl:List Bool):∀(l:List GClaim) (i:Nat) (s:RS),(f8 G fl l i s).got.cl.length=s.got.cl.length/\(f8 G fl l i s).slo.cl.length=s.slo.cl.length/\(f8 G fl l i s).room=s.room/\(f8 G fl l i s).bnd=s.bnd
 |[],_,_=>⟨rfl,rfl,rfl,rfl⟩
 |c::l,i,s=>by
  rw [f8];split
  ·exact nj G fl l _ _
  obtain ⟨a,b,c,d⟩:=nj G fl l (i+1) (s.put (i:Int) (G.got.cl.getD i 0) (G.slo.cl.getD i 0));exact ⟨a.trans (bU _ _ _),b.trans (bU _ _ _),c,d⟩
theorem Ae {i n:Nat} {j:Int} {fl:List Bool} {x:Rat} (hf:fl.getD i false=true):(if ((i+1:Nat):Int)<=j/\j<((i+1+n:Nat):Int)/\fl.getD j.toNat false=false then x else 0)=if (i:Int)<=j/\j<((i+(n+1):Nat):Int)/\fl.getD j.toNat false=false then x else 0:=by
 by_cases hj:j=(i:Int)
 ·subst hj;rw [if_neg (by omega),if_neg (by rw [Int.toNat_natCast,hf];simp)]
 have:(((i+1:Nat):Int)<=j/\j<((i+1+n:Nat):Int)/\fl.getD j.toNat false=false)↔((i:Int)<=j/\j<((i+(n+1):Nat):Int)/\fl.getD j.toNat false=false):=by
  constructor
  ·rintro ⟨a,b,c⟩;exact ⟨by omega,by omega,c⟩
  rintro ⟨a,b,c⟩;exact ⟨by omega,by omega,c⟩
 simp only [this]
theorem wF {i n:Nat} {j:Int} {fl:List Bool} {g:List Rat} {y:Rat} (hf:¬fl.getD i false=true):(y+if (i:Int)=j then g.getD i 0 else 0)+(if ((i+1:Nat):Int)<=j/\j<((i+1+n:Nat):Int)/\fl.getD j.toNat false=false then g.getD j.toNat 0 else 0)=y+if (i:Int)<=j/\j<((i+(n+1):Nat):Int)/\fl.getD j.toNat false=false then g.getD j.toNat 0 else 0:=by
 by_cases hj:(i:Int)=j
 ·subst hj;have hf2:fl.getD i false=false:=by simpa using hf
  rw [if_pos rfl,if_neg (by omega),Int.toNat_natCast,if_pos ⟨by omega,by omega,hf2⟩];grind
 have:(((i+1:Nat):Int)<=j/\j<((i+1+n:Nat):Int)/\fl.getD j.toNat false=false)↔((i:Int)<=j/\j<((i+(n+1):Nat):Int)/\fl.getD j.toNat false=false):=by
  constructor
  ·rintro ⟨a,b,c⟩;exact ⟨by omega,by omega,c⟩
  rintro ⟨a,b,c⟩;exact ⟨by omega,by omega,c⟩
 simp only [this,hj,if_false];grind
theorem gw (G:RS) (fl:List Bool) (j:Int) (hj:j= -1∨0<=j):∀(l:List GClaim) (i:Nat) (s:RS),i+l.length<=s.got.cl.length->i+l.length<=s.slo.cl.length->
  (f8 G fl l i s).got.get j=s.got.get j+(if (i:Int)<=j/\j<((i+l.length:Nat):Int)/\fl.getD j.toNat false=false then G.got.cl.getD j.toNat 0 else 0)/\
  (f8 G fl l i s).slo.get j=s.slo.get j+(if (i:Int)<=j/\j<((i+l.length:Nat):Int)/\fl.getD j.toNat false=false then G.slo.cl.getD j.toNat 0 else 0)
 |[],i,s,_,_=>by
  rw [f8,List.length_nil,if_neg (by omega),if_neg (by omega)];exact ⟨by grind,by grind⟩
 |c::l,i,s,h1,h2=>by
  rw [f8];simp only [List.length_cons] at h1 h2 ⊢;by_cases hf:fl.getD i false=true
  ·obtain ⟨a,b⟩:=gw G fl j hj l (i+1) s (by omega) (by omega);rw [if_pos hf,a,b,Ae hf,Ae hf];exact ⟨rfl,rfl⟩
  have e1:(s.put (i:Int) (G.got.cl.getD i 0) (G.slo.cl.getD i 0)).got=s.got.add (i:Int) (G.got.cl.getD i 0):=rfl;have e2:(s.put (i:Int) (G.got.cl.getD i 0) (G.slo.cl.getD i 0)).slo=s.slo.add (i:Int) (G.slo.cl.getD i 0):=rfl;obtain ⟨a,b⟩:=gw G fl j hj l (i+1) (s.put (i:Int) (G.got.cl.getD i 0) (G.slo.cl.getD i 0)) (by rw [e1,bU];omega) (by rw [e2,bU];omega);rw [if_neg hf,a,b,e1,e2,pI (.inr ⟨by omega,by omega⟩) hj,pI (.inr ⟨by omega,by omega⟩) hj];exact ⟨wF hf,wF hf⟩
theorem DR {A B:WR} (hl:A.cl.length=B.cl.length) (h:∀i:Nat,A.cl.getD i 0=B.cl.getD i 0) (hr:A.rv=B.rv):A=B:=by
 obtain ⟨a,x⟩:=A;obtain ⟨b,y⟩:=B;simp only at hl h hr;subst hr;congr 1;refine List.ext_getElem hl fun i h1 h2=>?_
 have:=h i;rw [List.getD_eq_getElem?_getD,List.getD_eq_getElem?_getD,List.getElem?_eq_getElem h1,List.getElem?_eq_getElem h2] at this;exact this
theorem tY (R:WR) (i:Nat):R.get (i:Int)=R.cl.getD i 0:=by
 unfold WR.get;rw [if_neg (by omega),Int.toNat_natCast]
theorem tZ (R:WR):R.get (-1)=R.rv:=by
 unfold WR.get;rw [if_pos rfl]
theorem Fu {e:GEst} {m:Rat} (he:wEst e.claims) (hm:0<=m):(rG e m).got.cl=aW (az e) m/\(rG e m).slo.cl=ba (az e) m/\((rG e m).bnd=true↔a8 (aC e.claims) m)/\(a8 (aC e.claims) m->(rG e m).room=cu (aC e.claims) m):=by
 have h:=mA 1 (aC e.claims) m (RS.z e.claims.length) hm (eY he.am);have h1:(1:Rat)≠0:=by grind
 have hd:cu (aC e.claims) m/1=cu (aC e.claims) m:=by rw [Rat.div_def];grind
 unfold rG;rw [h];by_cases ho:a8 (aC e.claims) m
 ·rw [if_pos ⟨ho,h1⟩,hd];refine ⟨by rw [fW];rfl,by rw [fX];rfl,⟨fun _=>ho,fun _=>?_⟩,fun _=>?_⟩
  ·simp [RS.kink,RS.z]
  simp [RS.kink,RS.z]
 rw [if_neg (fun h=>ho h.1)];refine ⟨rfl,rfl,⟨fun h=>?_,fun h=>absurd h ho⟩,fun h=>absurd h ho⟩;cases h
theorem oo {e:GEst} {m:Rat} (he:eOK e) (hm:0<=m):(eL e m).got=eQ (az e) m/\(eL e m).slo=b9 (az e) m/\((eL e m).bnd=true↔a8 (aC e.claims) m)/\(a8 (aC e.claims) m->(eL e m).room=bx (az e) m):=by
 obtain ⟨g1,g2,g3,g4⟩:=Fu he.cl hm;have hl:=ig he;have hgn:=pT he.cl hm;have hkn:=pX he.cl hm;obtain ⟨z1,z2⟩:(rS0 e m).got=⟨List.replicate e.claims.length 0,0⟩/\(rS0 e m).slo=⟨List.replicate e.claims.length 0,0⟩:=by
  unfold rS0;split
  ·exact ⟨by rw [fW];rfl,by rw [fX];rfl⟩
  exact ⟨rfl,rfl⟩
 have hps:(az e).pools=e.agrs.map (aV e.claims):=rfl;obtain ⟨o1,o2,o3,o4⟩:=Ac e.claims (rG e m) (by rw [g1];exact hgn) (by rw [g2];exact hkn) he.cl.am e.agrs (List.replicate e.claims.length false) (rS0 e m) he.ag;have hfl:=fun j=>Ad e.claims (rG e m) j e.agrs (List.replicate e.claims.length false) (rS0 e m) (by simp) he.ag
 rw [g1,z1,←hps] at o1;rw [g1,g2,z2,←hps] at o2;rw [g1,g2,←hps] at o3;change (rO e m).2.got=_ at o1;change (rO e m).2.slo=_ at o2;have hL1:(rO e m).2.got.cl.length=e.claims.length:=by rw [o1,ln];simp
 have hL2:(rO e m).2.slo.cl.length=e.claims.length:=by rw [o2,jI];simp
 obtain ⟨r1,r2,r3,r4⟩:=nj (rG e m) (rO e m).1 e.claims 0 (rO e m).2;have hzero:∀i:Nat,(⟨List.replicate e.claims.length 0,0⟩:WR).get (i:Int)=0:=fun i=>by rw [tY];exact ke _ _
 have hflj:∀j:Nat,(rO e m).1.getD j false=true↔i6 (j:Int) (az e).pools:=fun j=>by
  have h:=hfl j;have h0:¬(List.replicate e.claims.length false).getD j false=true:=by
   rw [List.getD_eq_getElem?_getD];cases hx:(List.replicate e.claims.length false)[j]? with
   |none=>simp
   |some b=>have:=List.mem_of_getElem? hx;simp at this;simp [this.2]
  exact ⟨fun x=>(h.1 x).resolve_left h0,fun x=>h.2 (.inr x)⟩
 refine ⟨DR (by rw [pG];exact r1.trans hL1) (fun i=>?_) ?_,DR (by rw [dO];exact r2.trans hL2) (fun i=>?_) ?_,?_,?_⟩
 ·have h:=(gw (rG e m) (rO e m).1 (i:Int) (.inr (by omega)) e.claims 0 (rO e m).2 (by omega) (by omega)).1;have hp:=gM (aW (az e) m) (i:Int) (.inr (by omega)) (az e).pools ⟨List.replicate e.claims.length 0,0⟩ fun p hp=>fk (hl p hp) (by simp)
  rw [o1,hp,hzero,tY,g1,Int.toNat_natCast] at h;change (eL e m).got.cl.getD i 0=_ at h;rw [h];obtain ⟨d1,d2⟩:=Gy (m:=m) he i;by_cases hi:i6 (i:Int) (az e).pools
  ·rw [if_neg (fun hh=>by rw [(hflj i).2 hi] at hh;simp at hh),d2 hi];grind
  have hf:(rO e m).1.getD i false=false:=by
   have:=mt (hflj i).1 hi;simpa using this
  rw [d1 hi,tM _ i _ hl hi];by_cases hin:i<e.claims.length
  ·rw [if_pos ⟨by omega,by omega,hf⟩];grind
  rw [if_neg (by omega),jG (by rw [gj];omega)];grind
 ·have h:=(gw (rG e m) (rO e m).1 (-1) (.inl rfl) e.claims 0 (rO e m).2 (by omega) (by omega)).1;have hp:=gM (aW (az e) m) (-1) (.inl rfl) (az e).pools ⟨List.replicate e.claims.length 0,0⟩ fun p hp=>fk (hl p hp) (by simp)
  rw [o1,hp,tZ,tZ,if_neg (by omega)] at h;change (eL e m).got.rv=_ at h;rw [h,Gz he];grind
 ·have h:=(gw (rG e m) (rO e m).1 (i:Int) (.inr (by omega)) e.claims 0 (rO e m).2 (by omega) (by omega)).2;have hp:=fR (aW (az e) m) (ba (az e) m) (i:Int) (.inr (by omega)) (az e).pools ⟨List.replicate e.claims.length 0,0⟩ fun p hp=>fk (hl p hp) (by simp)
  rw [o2,hp,hzero,tY,g2,Int.toNat_natCast] at h;change (eL e m).slo.cl.getD i 0=_ at h;rw [h];obtain ⟨d1,d2⟩:=C3 (m:=m) he i;by_cases hi:i6 (i:Int) (az e).pools
  ·rw [if_neg (fun hh=>by rw [(hflj i).2 hi] at hh;simp at hh),d2 hi];grind
  have hf:(rO e m).1.getD i false=false:=by
   have:=mt (hflj i).1 hi;simpa using this
  rw [d1 hi,tO _ _ i _ hl hi];by_cases hin:i<e.claims.length
  ·rw [if_pos ⟨by omega,by omega,hf⟩];grind
  rw [if_neg (by omega),jG (by rw [iA];omega)];grind
 ·have h:=(gw (rG e m) (rO e m).1 (-1) (.inl rfl) e.claims 0 (rO e m).2 (by omega) (by omega)).2;have hp:=fR (aW (az e) m) (ba (az e) m) (-1) (.inl rfl) (az e).pools ⟨List.replicate e.claims.length 0,0⟩ fun p hp=>fk (hl p hp) (by simp)
  rw [o2,hp,tZ,tZ,if_neg (by omega)] at h;change (eL e m).slo.rv=_ at h;rw [h,C4 he];grind
 ·change (eL e m).bnd=(rO e m).2.bnd at r4;rw [r4];constructor
  ·intro hb;rcases Classical.em (a8 (aC e.claims) m) with ho|ho
   ·exact ho
   exfalso;have hb0:(rS0 e m).bnd=false:=by
    unfold rS0;rw [if_neg (fun hx=>ho (g3.1 hx))];rfl
   have:=o4 hb0 fun a _=>by rw [g2];exact mm ho _
   change (rO e m).2.bnd=false at this;rw [this] at hb;cases hb
  intro ho;have hb0:(rS0 e m).bnd=true:=by
   unfold rS0;rw [if_pos (g3.2 ho)];simp [RS.kink,RS.z]
  exact (o3 hb0).1
 intro ho;change (eL e m).room=(rO e m).2.room at r3;rw [r3];have hb0:(rS0 e m).bnd=true/\(rS0 e m).room=cu (aC e.claims) m:=by
  unfold rS0;rw [if_pos (g3.2 ho),g4 ho];simp [RS.kink,RS.z]
 have h:=(o3 hb0.1).2;rw [hb0.2] at h;exact h
theorem Bp (r:GRat):xy (qOf r)=cx r:=rfl
theorem mD (r:GRat) (M:Nat) (h:sB M r) (hM:M<=100000000000):aR prog 148 [.agg (ai r)] (.val (.agg (ai (enc (cx r))))):=by
 have h1:=E4 r M h hM;rwa [Bp] at h1
def rGr (e:GEst) (M:Nat):Prop:=∀q,qB M q->aR prog 147 [.agg (aJ e),.agg (ai (enc q))] (.val (.one (.sp (cRS e.claims.length (rG e q)))))
def rDe (e:GEst) (M:Nat):Prop:=∀q,qB M q->aR prog 149 [.agg (aJ e),.agg (ai (enc q))] (.val (.one (.sp (cRS e.claims.length (eL e q)))))
def II:=And.intro zS (And.intro ic (And.intro cD (And.intro gH (dN))))
theorem qD:type_of%II:=II
theorem sG (e:GEst) (K:Nat) (hI2:jC e) (hl:e.claims.length<=1000) (ham:∀c∈e.claims,sB K c.amount) (hK0:0<K) (hKb:K<=10000000):aR prog 92 [.agg (aJ e)] (ttR e):=by
 refine aP func92 rfl (by decide) (N:=13) rfl (by simp) (R:=[.cell 2 32,.tmp 3]) rfl fun en k0=>?_
 refine awN ?_;simp only [qD,seval,aJ];have hC:=iw e hI2;rw [←vB] at hC;refine awN ?_;simp only [qD,seval,ab ao,ab au];refine ⟨_,hC,rfl,?_⟩;try simp only [ak,qD,seval]
 by_cases h0:bv e=0
 ·skip;refine awN ?_;simp only [qD,seval,h0];refine awF ?_;refine awK ?_;simp only [qD,seval];have hT:=DK e K (by omega) ham hK0 hKb;simp only [ai] at hT;refine awN ?_;simp only [qD,seval,ab ao,ab au];refine ⟨_,hT,rfl,?_⟩;try simp only [ak,qD,seval]
  refine awX ?_;simp only [qD,seval];simp [ttR,h0,ai]
 skip;refine awN ?_;simp only [qD,seval,h0];refine awT ?_;refine awN ?_;simp only [qD,seval];refine awX ?_;simp only [qD,seval];simp [ttR,h0,bf]
def IJ:=And.intro zS (And.intro EB (And.intro nX (And.intro ic (cD))))
theorem n6:type_of%IJ:=IJ
theorem sH (e:GEst) (m:GRat) (M:Nat) (hI2:jC e) (hM0:0<M) (hMb:M<=100000000000) (hm:sB M m) (hg:bv e=0->rGr e M):aR prog 94 [.agg (aJ e),.agg (ai m)] (grR e (cx m)):=by
 refine aP func94 rfl (by decide) (N:=19) rfl (by simp) (R:=[.tmp 4,.tmp 5]) rfl fun en k0=>?_
 refine awN ?_;simp only [n6,seval,aJ,ai];have hC:=iw e hI2;rw [←vB] at hC;refine awN ?_;simp only [n6,seval,ab ao,ab au];refine ⟨_,hC,(by first|rfl|simp [aU,aD,al,ax,A1.cells,cRS,ai,ab ap]),?_⟩;try simp only [ak,n6,seval]
 by_cases h0:bv e=0
 ·refine awN ?_;simp only [n6,seval,h0];refine awF ?_;refine awK ?_;simp only [n6,seval];have hP:=mD m M hm hMb;have hG:=hg h0 (cx m) (jc hm hM0);have hge:=(Fu (iC h0).cl (my m)).1;simp only [ai] at hG hP;refine awD (scq [1,3,4,6] (scT 4 5 .nil)) [0,0,0,0,0,0,0,0,0] ?_;simp only [n6,seval];refine ⟨_,hP,(by first|rfl|simp [aU,aD,al,ax,A1.cells,cRS,ai,ab ap]),?_⟩;try simp only [ak,n6,seval,ab ao,ab au]
  refine ⟨_,hG,(by first|rfl|simp [al,ax,cRS,ab ap]),?_⟩;try simp only [ak,n6,seval,cRS]
  refine awX ?_;simp only [n6,seval,ab ap];simp [grR,h0,hge]
 refine awN ?_;simp only [n6,seval,h0];refine awT ?_;refine awN ?_;simp only [n6,seval];refine awX ?_;simp only [n6,seval];simp [grR,h0]
def IK:=And.intro zS (And.intro EB (And.intro Fl (And.intro nX (And.intro ic (And.intro cD (And.intro gH (dN)))))))
theorem nk:type_of%IK:=IK
theorem nT (e:GEst) (m:GRat) (M:Nat) (hI2:jC e) (hM0:0<M) (hMb:M<=100000000000) (hm:sB M m) (hg:bv e=0->rDe e M):aR prog 95 [.agg (aJ e),.agg (ai m)] (dlR e (cx m)):=by
 refine aP func95 rfl (by decide) (N:=27) rfl (by simp) (R:=[.tmp 4,.cell 5 32,.tmp 6]) rfl fun en k0=>?_
 refine awN ?_;simp only [nk,seval,aJ,ai];have hC:=iw e hI2;rw [←vB] at hC;refine awN ?_;simp only [nk,seval,ab ao,ab au];refine ⟨_,hC,(by first|rfl|simp [aU,aD,al,ax,A1.cells,cRS,ai,ab ap]),?_⟩;try simp only [ak,nk,seval]
 by_cases h0:bv e=0
 ·refine awN ?_;simp only [nk,seval,h0];refine awF ?_;refine awK ?_;simp only [nk,seval];have hP:=mD m M hm hMb;have hG:=hg h0 (cx m) (jc hm hM0);obtain ⟨hge,_,_,_⟩:=oo (iC h0).eOK (my m);simp only [ai] at hG hP;refine awD (scq [1,3,4,6,9] .nil) [0,0,0,0,0] ?_;simp only [nk,seval];refine ⟨_,hP,(by first|rfl|simp [aU,aD,al,ax,A1.cells,cRS,ai,ab ap]),?_⟩;try simp only [ak,nk,seval,ab ao,ab au]
  refine ⟨_,hG,(by first|rfl|simp [al,ax,cRS,ab ap]),?_⟩;try simp only [ak,nk,seval,cRS]
  refine awD (scT 0 9 (scq [18,21] .nil)) [0,0,0,0,0,0,0,0,0,0,0] ?_;simp only [nk,seval];refine awX ?_;simp only [nk,seval,ab ap];simp [dlR,h0,hge,ai]
 refine awN ?_;simp only [nk,seval,h0];refine awT ?_;refine awN ?_;simp only [nk,seval];refine awX ?_;simp only [nk,seval];simp [dlR,h0,bf]
def IL:=And.intro zS (And.intro EC (And.intro CQ (And.intro nX (And.intro ic (And.intro cD (And.intro gH (dN)))))))
theorem nl:type_of%IL:=IL
theorem qE (e:GEst) (m:GRat) (M:Nat) (hI2:jC e) (hM0:0<M) (hMb:M<=100000000000) (hm:sB M m) (hg:bv e=0->rDe e M):aR prog 96 [.agg (aJ e),.agg (ai m)] (slR e (cx m)):=by
 refine aP func96 rfl (by decide) (N:=27) rfl (by simp) (R:=[.tmp 4,.cell 5 32,.tmp 6]) rfl fun en k0=>?_
 refine awN ?_;simp only [nl,seval,aJ,ai];have hC:=iw e hI2;rw [←vB] at hC;refine awN ?_;simp only [nl,seval,ab ao,ab au];refine ⟨_,hC,(by first|rfl|simp [aU,aD,al,ax,A1.cells,cRS,ai,ab ap]),?_⟩;try simp only [ak,nl,seval]
 by_cases h0:bv e=0
 ·refine awN ?_;simp only [nl,seval,h0];refine awF ?_;refine awK ?_;simp only [nl,seval];have hP:=mD m M hm hMb;have hG:=hg h0 (cx m) (jc hm hM0);obtain ⟨_,hge,_,_⟩:=oo (iC h0).eOK (my m);simp only [ai] at hG hP;refine awD (scq [1,3,4,6,9] .nil) [0,0,0,0,0] ?_;simp only [nl,seval];refine ⟨_,hP,(by first|rfl|simp [aU,aD,al,ax,A1.cells,cRS,ai,ab ap]),?_⟩;try simp only [ak,nl,seval,ab ao,ab au]
  refine ⟨_,hG,(by first|rfl|simp [al,ax,cRS,ab ap]),?_⟩;try simp only [ak,nl,seval,cRS]
  refine awD (scT 0 9 (scq [18,21] .nil)) [0,0,0,0,0,0,0,0,0,0,0] ?_;simp only [nl,seval];refine awX ?_;simp only [nl,seval,ab ap];simp [slR,h0,hge,ai]
 refine awN ?_;simp only [nl,seval,h0];refine awT ?_;refine awN ?_;simp only [nl,seval];refine awX ?_;simp only [nl,seval];simp [slR,h0,bf]

theorem Fv (cs:List GClaim) (n:Nat):∀l:List bR,(∀a∈l,wN (aV cs a).2<=n)->aN cs l<=l.length*n
 |[],_=>by simp [aN]
 |a::l,h=>by
  have h1:=Fv cs n l fun x hx=>h x (by simp [hx])
  have h2:=h a (by simp);rw [aN,List.length_cons,Nat.succ_mul];omega
def sEq (e:GEst) (x m:Rat):Prop:=(b9 (az e) x).rv=(b9 (az e) m).rv/\(b9 (az e) x).cl=(b9 (az e) m).cl
def nxI (e:GEst) (m:Rat) (n:Nat) (x:Rat):Prop:=(sEq e x m/\wMu (az e) x<n/\ii (az e) (b9 (az e) m) n x=eZ (az e) m)∨(¬sEq e x m/\eZ (az e) m=some x)
theorem Bq (e:GEst) (m:Rat):nxI e m (wMu (az e) m+1) m:= .inl ⟨⟨rfl,rfl⟩,Nat.lt_succ_self _,rfl⟩
theorem DS {e:GEst} {m x:Rat} {n:Nat} (h:nxI e m n x) (hs:sEq e x m) (ho:a8 (aC e.claims) x) (hmu:wMu (az e) (x+bx (az e) x)<wMu (az e) x):∃k,n=k+1/\nxI e m k (x+bx (az e) x):=by
 rcases h with ⟨_,h2,h3⟩|⟨h1,_⟩
 ·obtain ⟨k,rfl⟩:∃k,n=k+1:=⟨n-1,by omega⟩;refine ⟨k,rfl,?_⟩;have ho2:a8 (az e).ranks x:=ho;simp only [ii,ho2,if_true] at h3;by_cases hs2:sEq e (x+bx (az e) x) m
  ·have hs3:=hs2;unfold sEq at hs3;rw [if_pos hs3] at h3;exact .inl ⟨hs2,by omega,h3⟩
  have hs3:=hs2;unfold sEq at hs3;rw [if_neg hs3] at h3;exact .inr ⟨hs2,h3.symm⟩
 exact absurd hs h1
theorem wG {e:GEst} {m x:Rat} {n:Nat} (h:nxI e m n x) (hs:¬sEq e x m):eZ (az e) m=some x:=h.elim (fun h=>absurd h.1 hs) fun h=>h.2
theorem E9 {e:GEst} {m x:Rat} {n:Nat} (h:nxI e m n x) (ho:¬a8 (aC e.claims) x):(sEq e x m/\eZ (az e) m=none)∨(¬sEq e x m/\eZ (az e) m=some x):=by
 rcases h with ⟨h1,h2,h3⟩|h
 ·obtain ⟨k,rfl⟩:∃k,n=k+1:=⟨n-1,by omega⟩;have ho2:¬a8 (az e).ranks x:=ho;simp only [ii,ho2,if_false] at h3;exact .inl ⟨h1,h3.symm⟩
 exact .inr h
theorem wH:∀l:List Rat,rNN l->0<=jk l/\(jk l<=0->∀q∈l,q=0)
 |[],_=>⟨by simp [jk],fun _ q h=>by cases h⟩
 |x::l,h=>by
  obtain ⟨h1,h2⟩:=wH l fun q hq=>h q (by simp [hq])
  have hx:=h x (by simp);rw [jk];refine ⟨by grind,fun hz q hq=>?_⟩;rcases List.mem_cons.1 hq with rfl|hq
  ·grind
  exact h2 (by grind) q hq
theorem yp {e:GEst} {x:Rat} (he:eOK e) (hx:0<=x) (ho:¬a8 (aC e.claims) x):(∀q∈(b9 (az e) x).cl,q=0)/\(b9 (az e) x).rv=0:=by
 have h1:=EJ he hx;obtain ⟨h2,h3⟩:=GB he hx;have h4:¬x<cn e.claims:=fun h=>ho ((r6 _ _ hx (eY he.cl.am)).2 (by rw [pO he.cl.rk];exact h))
 rw [if_neg h4] at h1;obtain ⟨h5,h6⟩:=wH _ h2;exact ⟨h6 (by grind),by grind⟩
def nzA:List Rat->Bool
 |[]=>false
 |q::l=>if q=0 then nzA l else true
theorem np:∀{l:List Rat},nzA l=false↔∀q∈l,q=0
 |[]=>by simp [nzA]
 |q::l=>by
  rw [nzA];by_cases h:q=0
  ·rw [if_pos h,np (l:=l)];simp [h]
  rw [if_neg h];simp [h]
theorem Br {l k:List Rat} (hl:l.length=k.length) (h1:∀q∈l,q=0) (h2:∀q∈k,q=0):l=k:=by
 refine List.ext_getElem hl fun i a b=>?_
 rw [h1 _ (List.getElem_mem a),h2 _ (List.getElem_mem b)]
theorem G7 {e:GEst} {m x:Rat} (he:eOK e) (hx:0<=x) {n:Nat} (h:nxI e m n x) (ho:¬a8 (aC e.claims) x):(nzA (b9 (az e) m).cl=false/\(b9 (az e) m).rv=0->eZ (az e) m=none)/\(¬(nzA (b9 (az e) m).cl=false/\(b9 (az e) m).rv=0)->eZ (az e) m=some x):=by
 obtain ⟨c1,c2⟩:=yp he hx ho;have hl:(b9 (az e) x).cl.length=(b9 (az e) m).cl.length:=by rw [dO,dO]
 rcases E9 h ho with ⟨⟨s1,s2⟩,h2⟩|⟨hs,h2⟩
 ·refine ⟨fun _=>h2,fun hn=>absurd ⟨np.2 ?_,?_⟩ hn⟩
  ·rw [←s2];exact c1
  rw [←s1];exact c2
 refine ⟨fun ⟨a,b⟩=>absurd ⟨by rw [b];exact c2,Br hl c1 (np.1 a)⟩ hs,fun _=>h2⟩
theorem eh (e:GEst) (m:Rat):(b9 (az e) m).cl.length=e.claims.length:=dO _ _
def IM:=And.intro zS (And.intro pt (And.intro ll (cD)))
theorem jl:type_of%IM:=IM
theorem ej (l k:List Rat) (n9:Nat) (hl:l.length=n9) (hk:k.length=n9) (hn:n9<=1000000):aR prog 43 [.one (.sh 3 n9 (aA cQ l)),.one (.sh 3 n9 (aA cQ k))] (one (.bool (eqR l k))):=by
 subst hl;refine aP func43 rfl (by decide) (N:=26) rfl (by simp) (R:=[.tmp 4]) rfl fun en k0=>?_
 refine awN ?_;simp only [jl,seval];repeat refine ob ?_
 refine awN ?_;simp only [jl,seval];repeat refine ob ?_
 refine awF ?_;refine awK ?_;simp only [jl,seval];refine awN ?_;simp only [jl,seval];repeat refine ob ?_
 refine aQ [0,1,5] [] ?_;try simp only [ak,jl,seval]
 repeat' first|apply awS|apply awB
 refine aM (fun n st=>∃i0 nx,i0<=l.length/\n=l.length-i0/\eqR (l.drop i0) (k.drop i0)=eqR l (k.drop 0)/\st=⟨mkT [(0,.val (.one (.sh 3 l.length (aA cQ l)))),(1,.val (.one (.sh 3 l.length (aA cQ k)))),(5,one (.int .i64 i0))],mkH [],nx,0⟩) (l.length) ⟨0,_,by omega,by omega,by rfl,rfl⟩ ?_;rintro n0 st ⟨i0,nx0,hk0,rfl,hL0,rfl⟩;by_cases hlt0:i0<l.length
 ·have hI0:(i0:Int)<(l.length:Int):=by omega
  have hat0:=aO bH l i0 hlt0;try rw [Nat.mul_one] at hat0
  rw [List.drop_eq_getElem_cons hlt0] at hL0;have hik:i0<k.length:=by omega
  have hatk:=aO bH k i0 hik;simp only [cQ,ai] at hatk;rw [List.drop_eq_getElem_cons hik] at hL0;generalize l[i0]=x at *
  simp only [ws] at hL0;refine awN ?_;simp only [jl,seval,hI0];repeat refine ob ?_
  refine awT ?_;refine awK ?_;simp only [jl,seval];by_cases heq:x=k[i0]
  ·have q3:decide (x=k[i0])=true:=by simp [heq]
   have q1:=cq (enc x) (enc k[i0]);have q2:=cr x k[i0];refine awD (scT 0 9 .nil) [0,0,0,0,0,0,0,0,0] ?_;simp only [jl,seval,ai,hI0,q3,hat0,hatk,cQ,q1,q2];repeat refine ob ?_
   refine awF ?_;refine awK ?_;simp only [jl,seval];refine awN ?_;simp only [jl,seval];repeat refine ob ?_
   repeat refine ob ?_
   refine ⟨_,aI [0,1,5] [],l.length-(i0+1),by omega,i0+1,?a6_nx,by omega,rfl,?i6_0,?st6⟩;case st6=>(simp only [jl,seval];first|rfl|(simp [hI0,hat0,q3,Nat.add_mul];done))
   case i6_0=>(rw [if_pos heq,List.drop_zero] at hL0;exact hL0)
  have q3:decide (x=k[i0])=false:=by simp [heq]
  have q1:=cq (enc x) (enc k[i0]);have q2:=cr x k[i0];refine awD (scT 0 9 .nil) [0,0,0,0,0,0,0,0,0] ?_;simp only [jl,seval,ai,hI0,q3,hat0,hatk,cQ,q1,q2];repeat refine ob ?_
  refine awT ?_;refine awN ?_;simp only [jl,seval];repeat refine ob ?_
  refine awX ?_;try simp only [jl,seval]
  have h9:eqR l k=false:=by rw [List.drop_zero,if_neg heq] at hL0;exact hL0.symm
  rw [h9]
 obtain rfl:i0=l.length:=by omega
 have hI0:¬(l.length:Int)<(l.length:Int):=by omega
 rw [List.drop_length] at hL0;simp only [z6] at hL0;refine awN ?_;simp only [jl,seval,hI0];repeat refine ob ?_
 refine awF ?_;refine awQ ?_;simp only [jl,seval];refine awN ?_;simp only [jl,seval];repeat refine ob ?_
 refine awX ?_;try simp only [jl,seval]
 have h9:eqR l k=true:=by rw [List.drop_zero] at hL0;exact hL0.symm
 rw [h9]
def IN:=And.intro zS (And.intro pt (And.intro ll (And.intro Es (And.intro EC (And.intro CQ (And.intro Gq (And.intro Gr (And.intro nX (And.intro ic (And.intro cD (And.intro tu (And.intro Et (And.intro gH (dN))))))))))))))
theorem cy:type_of%IN:=IN
theorem wI (e:GEst) (r:GRat) (M:Nat) (hI2:jC e) (hM0:0<M) (hMb:M<=40000000) (hm:sB M r) (hg:bv e=0->rDe e M) (hU:bv e=0->∀x,0<=x->a8 (aC e.claims) x->qB M (x+bx (az e) x)):aR prog 97 [.agg (aJ e),.agg (ai r)] (neR e (cx r)):=by
 refine aP func97 rfl (by decide) (N:=86) rfl (by simp) (R:=[.cell 4 32,.tmp 5,.tmp 6]) rfl fun en k0=>?_
 refine awN ?_;simp only [cy,seval,aJ,ai];repeat refine ob ?_
 have hC:=iw e hI2;rw [←vB] at hC;refine awN ?_;simp only [cy,seval,ab ao,ab au];repeat refine ob ?_
 refine ⟨_,hC,(by first|rfl|simp [aU,aD,al,ax,A1.cells,cRS,ai,ab ap]),?_⟩;try simp only [ak,cy,seval]
 repeat refine ob ?_
 by_cases h0:bv e=0
 ·refine awN ?_;simp only [cy,seval,h0];repeat refine ob ?_
  refine awF ?_;refine awK ?_;simp only [cy,seval];have hW:=iC h0;have heo:=hW.eOK;have hP:=mD r M hm (by omega);have hmB:=jc hm hM0;have hm0:=my r;generalize cx r=m at *
  simp only [ai] at hP;refine awN ?_;simp only [cy,seval];repeat refine ob ?_
  refine ⟨_,hP,(by first|rfl|simp [aU,aD,al,ax,A1.cells,cRS,ai,ab ap]),?_⟩;try simp only [ak,cy,seval]
  repeat refine ob ?_
  have hG:=hg h0 m hmB;obtain ⟨_,d2,d3,d4⟩:=oo heo hm0;obtain ⟨D,hD⟩:∃D,eL e m=D:=⟨_,rfl⟩;simp only [ai] at hG;refine awN ?_;simp only [cy,seval,ab ao,ab au];repeat refine ob ?_
  refine ⟨_,hG,(by first|rfl|simp [al,ax,cRS,ab ap]),?_⟩;try simp only [ak,cy,seval,hD]
  repeat refine ob ?_
  refine awN ?_;simp only [cy,seval,cRS];repeat refine ob ?_
  refine aQ [2,4,8,9,10] [2,4,8] ?_;try simp only [ak,cy,seval]
  repeat' first|apply awS|apply awB
  refine aM (fun n st=>∃x nx,qB M x/\0<=x/\nxI e m n x/\st=⟨mkT [(2,.val (.one (.ptr 2 0 0))),(4,.val (.one (.ptr 4 2 0))),(8,.val (.one (.ptr 8 3 0))),(9,.val (.one (.sp (cRS e.claims.length D)))),(10,.val (.one (.sp (cRS e.claims.length (eL e x)))))],mkH [(2,⟨0,36,5,1,aJ e⟩),(4,⟨2,32,3,1,[.lit (.bool false),.lit (.string ay),.lit (.string ay)]⟩),(8,⟨3,32,3,1,ai (enc x)⟩)],nx,0⟩) (wMu (az e) m+1) ⟨m,_,hmB,hm0,Bq e m,by rw [hD];rfl⟩ ?_;rintro n0 st ⟨x,nx0,hxB,hx0,hnx,rfl⟩;obtain ⟨_,hx2,hx3,hx4⟩:=oo heo hx0;by_cases hb:(eL e x).bnd=true
  ·refine awN ?_;simp only [cy,seval,aJ,hb,cRS];repeat refine ob ?_
   refine awT ?_;refine awK ?_;simp only [cy,seval];by_cases hcl:eqR (eL e x).slo.cl D.slo.cl=true
   ·by_cases hrv:(eL e x).slo.rv=D.slo.rv
    ·have q3:decide ((eL e x).slo.rv=D.slo.rv)=true:=by simp [hrv]
     have hSR:=ej (eL e x).slo.cl D.slo.cl e.claims.length (by rw [hx2,eh]) (by rw [←hD,d2,eh]) (by have:=hW.n;omega);have q1:=cq (enc (eL e x).slo.rv) (enc D.slo.rv);have q2:=cr (eL e x).slo.rv D.slo.rv;refine awD (scT 0 8 (scq [16] (scT 9 12 .nil))) [0,0,0,0,0,0,0,0,0,0,0,84,84,84,84,84,84,84,84,84,0] ?_;simp only [cy,seval,ab ap];repeat refine ob ?_
     refine ⟨_,hSR,(by first|rfl|simp [aU,aD,al,ax,A1.cells,cRS,ai,ab ap]),?_⟩;try simp only [ak,cy,seval,hcl,q3,q1,q2]
     repeat refine ob ?_
     refine awF ?_;refine awK ?_;simp only [cy,seval];have hop:=hx3.1 hb;have hrm:=hx4 hop;have hxs:=hU h0 x hx0 hop;have hst:qB (M+M+1) (bx (az e) x):=by have:=hxs.sub hxB;rwa [show x+bx (az e) x-x=bx (az e) x by grind] at this
     have hAd:=l7 x (bx (az e) x) _ _ hxB hst (by omega) (by omega);rw [←hrm] at hAd;simp only [ai] at hAd;have hpos:=p5 (e:=e) hop;refine awD (scT 0 5 (scq [10,12] .nil)) [0,0,0,0,0,0,0] ?_;simp only [cy,seval,ai];repeat refine ob ?_
     refine ⟨_,hAd,(by first|rfl|simp [aU,aD,al,ax,A1.cells,cRS,ai,ab ap]),?_⟩;try simp only [ak,cy,seval]
     repeat refine ob ?_
     have hG2:=hg h0 (x+(eL e x).room) (by rw [hrm];exact hxs);simp only [ai] at hG2;refine awN ?_;simp only [cy,seval,ab ao,ab au];repeat refine ob ?_
     refine ⟨_,hG2,(by first|rfl|simp [al,ax,cRS,ab ap]),?_⟩;try simp only [ak,cy,seval]
     repeat refine ob ?_
     repeat refine ob ?_
     have hsq:sEq e x m:=⟨by have h:=hrv;rw [←hD,hx2,d2] at h;exact h,by have h:=(gh (by rw [hx2,←hD,d2,eh,eh])).1 hcl;rw [←hD,hx2,d2] at h;exact h⟩;obtain ⟨k9,rfl,hnx9⟩:=DS hnx hsq hop (zu heo hx0 hop);rw [←hrm] at hnx9;refine ⟨_,aI [2,4,8,9,10] [2,4,8],k9,by omega,x+(eL e x).room,?na,by rw [hrm];exact hxs,by rw [hrm];grind,hnx9,?st⟩;case st=>(simp only [cy,seval];rfl)
    have q3:decide ((eL e x).slo.rv=D.slo.rv)=false:=by simp [hrv]
    have hSR:=ej (eL e x).slo.cl D.slo.cl e.claims.length (by rw [hx2,eh]) (by rw [←hD,d2,eh]) (by have:=hW.n;omega);have q1:=cq (enc (eL e x).slo.rv) (enc D.slo.rv);have q2:=cr (eL e x).slo.rv D.slo.rv;refine awD (scT 0 8 (scq [16] (scT 9 12 .nil))) [0,0,0,0,0,0,0,0,0,0,0,84,84,84,84,84,84,84,84,84,0] ?_;simp only [cy,seval,ab ap];repeat refine ob ?_
    refine ⟨_,hSR,(by first|rfl|simp [aU,aD,al,ax,A1.cells,cRS,ai,ab ap]),?_⟩;try simp only [ak,cy,seval,hcl,q3,q1,q2]
    repeat refine ob ?_
    refine awT ?_;refine awN ?_;simp only [cy,seval,ai];repeat refine ob ?_
    refine awX ?_;have hno:=wG hnx (fun h=>hrv (by rw [hx2,←hD,d2];exact h.1));simp only [cy,seval];simp [neR,h0,hno,ai]
   have hSR:=ej (eL e x).slo.cl D.slo.cl e.claims.length (by rw [hx2,eh]) (by rw [←hD,d2,eh]) (by have:=hW.n;omega);have q1:=cq (enc (eL e x).slo.rv) (enc D.slo.rv);have q2:=cr (eL e x).slo.rv D.slo.rv;refine awD (scT 0 8 (scq [16] (scT 9 12 .nil))) [0,0,0,0,0,0,0,0,0,0,0,84,84,84,84,84,84,84,84,84,0] ?_;simp only [cy,seval,ab ap];repeat refine ob ?_
   refine ⟨_,hSR,(by first|rfl|simp [aU,aD,al,ax,A1.cells,cRS,ai,ab ap]),?_⟩;try simp only [ak,cy,seval,hcl]
   repeat refine ob ?_
   refine awT ?_;refine awN ?_;simp only [cy,seval,ai];repeat refine ob ?_
   refine awX ?_;have hno:=wG hnx (fun h=>hcl ((gh (by rw [hx2,←hD,d2,eh,eh])).2 (by rw [hx2,←hD,d2];exact h.2)));simp only [cy,seval];simp [neR,h0,hno,ai]
  refine awN ?_;simp only [cy,seval,aJ,hb,cRS];repeat refine ob ?_
  refine awF ?_;refine awQ ?_;simp only [cy,seval];refine awN ?_;simp only [cy,seval];repeat refine ob ?_
  have hno:=mt hx3.2 hb;obtain ⟨e1,e2⟩:=G7 heo hx0 hnx hno;rw [←d2,hD] at e1 e2;have hDl:D.slo.cl.length=e.claims.length:=by rw [←hD,d2,eh]
  have hn24:=hW.n;refine aQ [4,8,9,11] [4,8] ?_;try simp only [ak,cy,seval]
  repeat' first|apply awS|apply awB
  refine aM (fun n st=>∃i1 nx,i1<=D.slo.cl.length/\n=D.slo.cl.length-i1/\nzA (D.slo.cl.drop i1)=nzA D.slo.cl/\st=⟨mkT [(4,.val (.one (.ptr 4 2 0))),(8,.val (.one (.ptr 8 3 0))),(9,.val (.one (.sp (cRS e.claims.length D)))),(11,one (.int .i64 i1))],mkH [(4,⟨2,32,3,1,[.lit (.bool false),.lit (.string ay),.lit (.string ay)]⟩),(8,⟨3,32,3,1,ai (enc x)⟩)],nx,0⟩) (D.slo.cl.length) ⟨0,_,by omega,by omega,by rfl,rfl⟩ ?_;rintro n1 st ⟨i1,nx1,hk1,rfl,hL1,rfl⟩;by_cases hlt1:i1<D.slo.cl.length
  ·have hI1:(i1:Int)<(D.slo.cl.length:Int):=by omega
   have hat1:=aO bH D.slo.cl i1 hlt1;try rw [Nat.mul_one] at hat1
   rw [List.drop_eq_getElem_cons hlt1] at hL1;have hI9:(i1:Int)<(e.claims.length:Int):=by omega
   generalize D.slo.cl[i1]=q at *
   simp only [nzA] at hL1;refine awN ?_;simp only [cy,seval,cRS,hI9];repeat refine ob ?_
   refine awT ?_;refine awK ?_;simp only [cy,seval];by_cases hq0:q=0
   ·have hz:(enc q).num={data:= #[]}:=(nS _).2 hq0;refine awN ?_;simp only [cy,seval,hat1,hz,cQ,ai];repeat refine ob ?_
    refine awF ?_;refine awK ?_;simp only [cy,seval];refine awN ?_;simp only [cy,seval];repeat refine ob ?_
    repeat refine ob ?_
    refine ⟨_,aI [4,8,9,11] [4,8],D.slo.cl.length-(i1+1),by omega,i1+1,?a21_nx,by omega,rfl,?i21_0,?st21⟩;case st21=>(simp only [cy,seval];first|rfl|(simp [h0,hb,hI1,hat1,hz,Nat.add_mul];done))
    case i21_0=>(rw [if_pos hq0] at hL1;exact hL1)
   have hz:¬(enc q).num={data:= #[]}:=fun h=>hq0 ((nS _).1 h)
   refine awN ?_;simp only [cy,seval,hat1,hz,cQ,ai];repeat refine ob ?_
   refine awT ?_;refine awN ?_;simp only [cy,seval];repeat refine ob ?_
   refine awX ?_;have hn9:=e2 (fun h=>by rw [if_neg hq0] at hL1;rw [h.1] at hL1;cases hL1);simp only [cy,seval];simp [neR,h0,hn9,ai]
  obtain rfl:i1=D.slo.cl.length:=by omega
  have hI1:¬(D.slo.cl.length:Int)<(D.slo.cl.length:Int):=by omega
  rw [List.drop_length] at hL1;simp only [nzA] at hL1;have hI9:¬(D.slo.cl.length:Int)<(e.claims.length:Int):=by omega
  refine awN ?_;simp only [cy,seval,cRS,hI9];repeat refine ob ?_
  refine awF ?_;refine awQ ?_;simp only [cy,seval];by_cases hr0:D.slo.rv=0
  ·have hz2:(enc D.slo.rv).num={data:= #[]}:=(nS _).2 hr0;refine awN ?_;simp only [cy,seval,hz2];repeat refine ob ?_
   refine awF ?_;refine awK ?_;simp only [cy,seval];refine awN ?_;simp only [cy,seval];repeat refine ob ?_
   refine awX ?_;have hn9:=e1 ⟨hL1.symm,hr0⟩;simp only [cy,seval];simp [neR,h0,hn9,bf]
  have hz2:¬(enc D.slo.rv).num={data:= #[]}:=fun h=>hr0 ((nS _).1 h)
  refine awN ?_;simp only [cy,seval,hz2];repeat refine ob ?_
  refine awT ?_;refine awN ?_;simp only [cy,seval,ai];repeat refine ob ?_
  refine awX ?_;have hn9:=e2 (fun h=>hr0 h.2);simp only [cy,seval];simp [neR,h0,hn9,ai]
 refine awN ?_;simp only [cy,seval,h0];repeat refine ob ?_
 refine awT ?_;refine awN ?_;simp only [cy,seval];repeat refine ob ?_
 refine awX ?_;simp only [cy,seval];simp [neR,h0,bf]
def xP (i:Int):GPart:=⟨i,false,gZ⟩
def xC (i:Int) (c:Rat):GPart:=⟨i,true,enc c⟩
theorem IP:(jd.map fun c=>qOf c.amount)=[60,40]:=by simp [jd,ci]
theorem DT:aC jd=[[],[],[(0,60),(1,40)],[],[],[],[],[]]:=by
 simp [aC,List.range,List.range.loop,wRk,jd,ci]
theorem qF (ags:List bR):az (exE ags)=⟨2,[[],[],[(0,60),(1,40)],[],[],[],[],[]],ags.map (aV jd),100⟩:=by
 have h1:cn jd=100:=by
  have:cn jd=60+(40+0):=by simp [cn,jd,ci]
  rw [this];grind
 unfold az exE;rw [DT,h1];rfl
theorem t6 (a:bR) (h:∀t∈a,∀x∈t,inR 2 x.claim):aV jd a=(rMs a 2 0,(bb a [60,40]).2++[dG (rMs a 2 0) (bb a [60,40]).1]):=by
 unfold aV;rw [IP,ym h]
def xB:bR:=[[xP 1],[xP 0]]
noncomputable def xCC:bR:=[[xC 1 15],[xP 0]]
noncomputable def xD:bR:=[[xC (-1) 12],[xP 0,xP 1]]
theorem Fa:aV jd xB=([0,1],[[(1,40)],[(0,60)],[(0,0),(1,0)]]):=by
 rw [t6 xB (by simp [xB,xP,inR])];simp [rMs,mbA,mbT,xB,xP,bb,b8,cp,dG,Rat.sub_self]
theorem Af:aV jd xCC=([0,1],[[(1,15)],[(0,60)],[(0,0),(1,25)]]):=by
 have h1:bC 40 15=15:=by kernel_rfl
 have h2:(40:Rat)-15=25:=by kernel_rfl
 rw [t6 xCC (by simp [xCC,xC,xP,inR])];simp [rMs,mbA,mbT,xCC,xC,xP,bb,b8,cp,dG,ci,h1,h2,Rat.sub_self]
theorem Fb:aV jd xD=([0,1],[[(-1,12)],[(0,60),(1,40)],[(0,0),(1,0)]]):=by
 rw [t6 xD (by simp [xD,xC,xP,inR])];simp [rMs,mbA,mbT,xD,xC,xP,bb,b8,cp,dG,ci,Rat.sub_self]
theorem Fc:(eQ (az (exE [])) ((50:Int):Rat)).cl=[((30:Int):Rat),((20:Int):Rat)]:=by
 rw [qF];kernel_rfl
theorem Fd:(eQ (az (exE [xB])) ((50:Int):Rat)).cl=[((10:Int):Rat),((40:Int):Rat)]:=by
 rw [qF,List.map_cons,Fa];kernel_rfl
theorem Fe:(eQ (az (exE [xCC])) ((50:Int):Rat)).cl=[((35:Int):Rat),((15:Int):Rat)]:=by
 rw [qF,List.map_cons,Af];kernel_rfl
theorem DU:(eQ (az (exE [xCC])) ((95:Int):Rat)).cl=[((60:Int):Rat),((35:Int):Rat)]:=by
 rw [qF,List.map_cons,Af];kernel_rfl
theorem Ff:(eQ (az (exE [xD])) ((50:Int):Rat)).cl=[mkRat 114 5,mkRat 76 5]:=by
 rw [qF,List.map_cons,Fb];kernel_rfl
theorem t7 {q:Rat} (h:0<=q):¬cU q<0:=by
 unfold cU;rw [fh];grind
def xOK (a:bR):Prop:=a.length<=2/\(∀t∈a,t.length<=2)/\∀t∈a,∀p∈t,(p.claim= -1/\p.capped=true∨0<=p.claim/\p.claim<2)/\sB 1 p.cap/\0<=qOf p.cap
theorem wJ (i:Int) (h:0<=i/\i<2):((xP i).claim= -1/\(xP i).capped=true∨0<=(xP i).claim/\(xP i).claim<2)/\sB 1 (xP i).cap/\0<=qOf (xP i).cap:=⟨.inr h,C6,by show 0<=qOf gZ;rw [mZ];grind⟩
theorem Fw (i:Int) (c:Nat) (h:i= -1∨0<=i/\i<2) (hc:c<256):((xC i ((c:Int):Rat)).claim= -1/\(xC i ((c:Int):Rat)).capped=true∨0<=(xC i ((c:Int):Rat)).claim/\(xC i ((c:Int):Rat)).claim<2)/\sB 1 (xC i ((c:Int):Rat)).cap/\0<=qOf (xC i ((c:Int):Rat)).cap:=
 ⟨h.imp (fun h=>⟨h,rfl⟩) id,dT (fS c hc),by show 0<=qOf (enc _);rw [ci];exact_mod_cast Nat.zero_le c⟩
theorem Fx:xOK xB:=⟨by simp [xB],by simp [xB],by
 intro t ht p hp;simp only [xB,List.mem_cons,List.not_mem_nil,or_false] at ht;rcases ht with rfl|rfl<;>simp only [List.mem_cons,List.not_mem_nil,or_false] at hp<;>subst hp
 ·exact wJ 1 (by decide)
 exact wJ 0 (by decide)⟩
theorem t8:xOK xCC:=⟨by simp [xCC],by simp [xCC],by
 intro t ht p hp;simp only [xCC,List.mem_cons,List.not_mem_nil,or_false] at ht;rcases ht with rfl|rfl<;>simp only [List.mem_cons,List.not_mem_nil,or_false] at hp<;>subst hp
 ·exact Fw 1 15 (by decide) (by decide)
 exact wJ 0 (by decide)⟩
theorem Fy:xOK xD:=⟨by simp [xD],by simp [xD],by
 intro t ht p hp;simp only [xD,List.mem_cons,List.not_mem_nil,or_false] at ht;rcases ht with rfl|rfl<;>simp only [List.mem_cons,List.not_mem_nil,or_false] at hp
 ·subst hp;exact Fw (-1) 12 (by decide) (by decide)
 rcases hp with rfl|rfl
 ·exact wJ 0 (by decide)
 exact wJ 1 (by decide)⟩
theorem Ag:∀l:List GPart,(∀p∈l,(p.claim= -1/\p.capped=true∨0<=p.claim/\p.claim<2)/\0<=qOf p.cap)->dv [false,false] l=0
 |[],_=>rfl
 |p::l,h=>by
  obtain ⟨h1,h2⟩:=h p (by simp);have h3:=t7 h2;have h4:¬(p.claim≠ -1/\(p.claim<0∨(([false,false]:List Bool).length:Int)<=p.claim)):=by simp only [List.length_cons,List.length_nil];omega
  have h5:¬(p.claim= -1/\p.capped=false):=by
   rintro ⟨h6,h7⟩;rcases h1 with h1|h1
   ·rw [h1.2] at h7;cases h7
   omega
  have h6:¬(p.claim≠ -1/\([false,false]:List Bool).getD p.claim.toNat false=true):=by
   rintro ⟨h7,h8⟩;rcases h1 with h1|h1
   ·exact h7 h1.1
   have h9:p.claim.toNat=0∨p.claim.toNat=1:=by omega
   rcases h9 with h9|h9<;>rw [h9] at h8<;>cases h8
  rw [dv,if_neg h4,if_neg h5,if_neg (fun h=>h3 h.2),if_neg h6];exact Ag l fun x hx=>h x (by simp [hx])
theorem IQ:bq jd=0:=by
 have h1:¬cU 60<0:=t7 (by grind);have h2:¬cU 40<0:=t7 (by grind);simp [bq,jd,ci,h1,h2]
theorem wK (ags:List bR) (h:ags.length<=1) (hx:∀a∈ags,xOK a):bv (exE ags)=0:=by
 have h0:¬cU (qOf gZ)<0:=by rw [mZ];exact t7 (by grind)
 have h1:¬(24<(exE ags).claims.length∨12<(exE ags).agrs.length):=by
  show ¬(24<2∨12<ags.length);omega
 have h2:¬bq (exE ags).claims≠0:=fun h=>h IQ
 unfold bv;rw [if_neg h1,if_neg (show ¬cU (qOf (exE ags).cash)<0 from h0),if_neg h2];show f4 [false,false] ags=0;match ags,h,hx with
 |[],_,_=>rfl
 |[a],_,hx=>
  obtain ⟨g1,g2,g3⟩:=hx a (by simp);have hc:eP a [false,false]=0:=by
   unfold eP;have h3:¬(24<a.length∨a.any eb=true):=by
    rintro (h|h)
    ·omega
    obtain ⟨t,ht,hl⟩:=List.any_eq_true.1 h;have:=g2 t ht;unfold eb at hl;simp only [decide_eq_true_eq] at hl;omega
   rw [if_neg h3];exact Ag _ fun p hp=>by
    obtain ⟨t,ht,hp⟩:=List.mem_flatten.1 hp;have:=g3 t ht p hp;exact ⟨this.1,this.2.2⟩
  simp only [f4,hc,ne_eq,not_true_eq_false,if_false]
theorem nq {r:GRat} (h:sB 1 r):jh r:=⟨Nat.le_trans h.1 (by decide),Nat.le_trans h.2 (by decide)⟩
theorem wL (ags:List bR) (h:ags.length<=1) (hx:∀a∈ags,xOK a):eIn (exE ags) 1 2 24 12:=by
 have hc:∀c∈(exE ags).claims,sB 1 c.amount:=fun c hc=>by
  simp only [exE,jd,List.mem_cons,List.not_mem_nil,or_false] at hc;rcases hc with rfl|rfl
  ·exact dT (fS 60 (by decide))
  exact dT (fS 40 (by decide))
 have h2:(exE ags).claims.length=2:=rfl;have hl:(exE ags).agrs.length<=1:=h;refine ⟨⟨nq C6,fun c h=>nq (hc c h),by omega,fun a ha=>⟨fun t ht=>by have:=(hx a ha).2.1 t ht;omega,fun p hp=>?_⟩⟩,⟨C6,hc,fun a ha t ht p hp=>((hx a ha).2.2 t ht p hp).2.1⟩,by decide,by decide,by omega,by decide,by omega,by decide,by decide,by decide⟩;obtain ⟨t,ht,hp⟩:=List.mem_flatten.1 hp;exact nq ((hx a ha).2.2 t ht p hp).2.1
theorem jO (m:Nat):cx (enc ((m:Int):Rat))=((m:Int):Rat):=by
 have h:(0:Rat)<=((m:Int):Rat):=by exact_mod_cast Nat.zero_le m
 unfold cx nW;rw [ci];split<;>grind
theorem DV (a b:Nat) (ha:a<=9223372036854775807) (hb:b<=9223372036854775807) (hd:0<b):aR prog 40 [.one (.lit (.int .i64 a)),.one (.lit (.int .i64 b))] (.val (.agg (ai (enc (mkRat (a:Int) b))))):=
 bj (ch func40 (by decide) (by kernel_rfl)) [.int .i64 a,.int .i64 b] (aF (enc (mkRat (a:Int) b))) fun w=>C8 a b w ha hb hd
def IR:=And.intro zS (And.intro tf2 (And.intro tf0 (And.intro Ih (And.intro Ii (tf5)))))
theorem dD:type_of%IR:=IR
theorem nr:aR prog 27 [] (one (.bool true)):=by
 refine aP func27 rfl (by decide) (N:=65) rfl (by simp) (R:=[.tmp 0]) rfl fun en k0=>?_
 refine awN ?_;simp only [dD,seval];refine awN ?_;simp only [dD,seval];refine awN ?_;simp only [dD,seval];refine gT (t:=2) (by rfl) (by rfl) (by decide) (by rfl) ?_;simp only [dD,seval];refine awN ?_;simp only [dD,seval];refine ⟨_,(fV 15 (by decide) (by decide)),rfl,?_⟩;try simp only [ak,dD,seval,ai]
 refine gT (t:=3) (by rfl) (by rfl) (by decide) (by rfl) ?_;simp only [dD,seval];refine awN ?_;simp only [dD,seval];refine ⟨_,(fV 12 (by decide) (by decide)),rfl,?_⟩;try simp only [ak,dD,seval,ai]
 refine gT (t:=4) (by rfl) (by rfl) (by decide) (by rfl) ?_;simp only [dD,seval];refine awN ?_;simp only [dD,seval];refine ⟨_,Iy,rfl,?_⟩;try simp only [ak,dD,seval,aJ]
 refine ⟨_,(fV 30 (by decide) (by decide)),rfl,?_⟩;try simp only [ak,dD,seval,ai]
 refine ⟨_,(fV 20 (by decide) (by decide)),rfl,?_⟩;try simp only [ak,dD,seval,ai,ab ao,ab au]
 refine ⟨_,(qr (exE []) ((50:Nat):Int) (((30:Int):Rat)) (((20:Int):Rat)) (by decide) (wL [] (by simp) (by simp)) (wK [] (by simp) (by simp)) (qB.mono (fS 50 (by decide)) (by decide)) (jO 50) rfl Fc),rfl,?_⟩;try simp only [ak,dD,seval]
 refine awR [26,29] [0,0,0,0,0,0,0,0] ?_;simp only [dD,seval];refine ⟨_,DD _ _ 25 _ ⟨_,by rfl,rfl⟩ (fun y B h=>?_),?_⟩
 ·by_cases hy:y<700
  ·exact hy
  exfalso;simp only [aB] at h;repeat rw [if_neg (by omega)] at h
  cases h
 rintro res H' nx' ⟨sx,sy,s2,cs2,rfl,rfl⟩;simp only [dD,seval,(id SD)];refine ⟨_,(fV 10 (by decide) (by decide)),rfl,?_⟩;try simp only [ak,dD,seval,ai]
 refine ⟨_,(fV 40 (by decide) (by decide)),rfl,?_⟩;try simp only [ak,dD,seval,ai]
 refine ⟨_,fJ (qr (exE [xB]) ((50:Nat):Int) (((10:Int):Rat)) (((40:Int):Rat)) (by decide) (wL [xB] (by simp) (by simpa using Fx)) (wK [xB] (by simp) (by simpa using Fx)) (qB.mono (fS 50 (by decide)) (by decide)) (jO 50) rfl Fd) rfl (fun e σ w vs hW hd=>?_),?_⟩
 ·obtain ⟨v1,vs1,rfl,d1,hd1⟩:=bV hd;obtain ⟨v2,vs2,rfl,d2,hd2⟩:=bV hd1;obtain ⟨v3,vs3,rfl,d3,hd3⟩:=bV hd2;obtain ⟨v4,vs4,rfl,d4,hd4⟩:=bV hd3;obtain ⟨us,rfl,du⟩:=d1;exact ⟨⟨us,rfl,mz (nt:=25) (na:=10) (n1:=708) (n2:=715) (t1:=[xP 1]) (t2:=[xP 0]) hW du (by rfl) (by rfl) (by rfl) (by rfl)⟩,cE eS (by rfl) d2,cE eS (by rfl) d3,cE eS (by rfl) d4,(by cases vs4 with|nil=>exact trivial|cons v vs=>exact hd4.elim)⟩
 rintro res H' nx' ⟨rfl,rfl,rfl⟩;simp only [dD,seval,(id SD)];refine aQ [0,1,2,3,4,5,6] [10] ?_;simp only [dD,seval];refine awR [33,36,41,44] [0,0,0,0,0,0,0,0,77,77,77,77,77,77,77,0,0] ?_;simp only [dD,seval];refine ⟨_,DD _ _ 32 _ ⟨_,by rfl,rfl⟩ (fun y B h=>?_),?_⟩
 ·by_cases hy:y<700
  ·exact hy
  exfalso;simp only [aB] at h;repeat rw [if_neg (by omega)] at h
  cases h
 rintro res H' nx' ⟨sx,sy,s2,cs2,rfl,rfl⟩;simp only [dD,seval,(id SD)];refine ⟨_,(fV 35 (by decide) (by decide)),rfl,?_⟩;try simp only [ak,dD,seval,ai]
 refine ⟨_,(fV 15 (by decide) (by decide)),rfl,?_⟩;try simp only [ak,dD,seval,ai]
 refine ⟨_,fJ (qr (exE [xCC]) ((50:Nat):Int) (((35:Int):Rat)) (((15:Int):Rat)) (by decide) (wL [xCC] (by simp) (by simpa using t8)) (wK [xCC] (by simp) (by simpa using t8)) (qB.mono (fS 50 (by decide)) (by decide)) (jO 50) rfl Fe) rfl (fun e σ w vs hW hd=>?_),?_⟩
 ·obtain ⟨v1,vs1,rfl,d1,hd1⟩:=bV hd;obtain ⟨v2,vs2,rfl,d2,hd2⟩:=bV hd1;obtain ⟨v3,vs3,rfl,d3,hd3⟩:=bV hd2;obtain ⟨v4,vs4,rfl,d4,hd4⟩:=bV hd3;obtain ⟨us,rfl,du⟩:=d1;exact ⟨⟨us,rfl,mz (nt:=32) (na:=10) (n1:=708) (n2:=715) (t1:=[xC 1 15]) (t2:=[xP 0]) hW du (by rfl) (by rfl) (by rfl) (by rfl)⟩,cE eS (by rfl) d2,cE eS (by rfl) d3,cE eS (by rfl) d4,(by cases vs4 with|nil=>exact trivial|cons v vs=>exact hd4.elim)⟩
 rintro res H' nx' ⟨rfl,rfl,rfl⟩;simp only [dD,seval,(id SD)];refine ⟨_,Iz _ _ 40 _ ⟨_,by rfl,rfl⟩ (fun y B h=>?_),?_⟩
 ·by_cases hy:y<800
  ·exact hy
  exfalso;simp only [aB] at h;repeat rw [if_neg (by omega)] at h
  cases h
 rintro res H' nx' ⟨sx,sy,s2,cs2,rfl,rfl⟩;simp only [dD,seval,(id SD)];refine ⟨_,(fV 60 (by decide) (by decide)),rfl,?_⟩;try simp only [ak,dD,seval,ai]
 refine ⟨_,(fV 35 (by decide) (by decide)),rfl,?_⟩;try simp only [ak,dD,seval,ai]
 refine ⟨_,fJ (qr (exE [xCC]) ((95:Nat):Int) (((60:Int):Rat)) (((35:Int):Rat)) (by decide) (wL [xCC] (by simp) (by simpa using t8)) (wK [xCC] (by simp) (by simpa using t8)) (qB.mono (fS 95 (by decide)) (by decide)) (jO 95) rfl DU) rfl (fun e σ w vs hW hd=>?_),?_⟩
 ·obtain ⟨v1,vs1,rfl,d1,hd1⟩:=bV hd;obtain ⟨v2,vs2,rfl,d2,hd2⟩:=bV hd1;obtain ⟨v3,vs3,rfl,d3,hd3⟩:=bV hd2;obtain ⟨v4,vs4,rfl,d4,hd4⟩:=bV hd3;obtain ⟨us,rfl,du⟩:=d1;exact ⟨⟨us,rfl,mz (nt:=40) (na:=10) (n1:=808) (n2:=815) (t1:=[xC 1 15]) (t2:=[xP 0]) hW du (by rfl) (by rfl) (by rfl) (by rfl)⟩,cE eS (by rfl) d2,cE eS (by rfl) d3,cE eS (by rfl) d4,(by cases vs4 with|nil=>exact trivial|cons v vs=>exact hd4.elim)⟩
 rintro res H' nx' ⟨rfl,rfl,rfl⟩;simp only [dD,seval,(id SD)];refine aQ [0,1,2,3,4,5,6,7] [10] ?_;simp only [dD,seval];refine awR [51,54] [0,0,0,0,0,0,0,0,0,0] ?_;simp only [dD,seval];refine ⟨_,DD _ _ 50 _ ⟨_,by rfl,rfl⟩ (fun y B h=>?_),?_⟩
 ·by_cases hy:y<700
  ·exact hy
  exfalso;simp only [aB] at h;repeat rw [if_neg (by omega)] at h
  cases h
 rintro res H' nx' ⟨sx,sy,s2,cs2,rfl,rfl⟩;simp only [dD,seval,(id SD)];refine ⟨_,(DV 114 5 (by decide) (by decide) (by decide)),rfl,?_⟩;try simp only [ak,dD,seval,ai]
 refine ⟨_,(DV 76 5 (by decide) (by decide) (by decide)),rfl,?_⟩;try simp only [ak,dD,seval,ai]
 refine ⟨_,fJ (qr (exE [xD]) ((50:Nat):Int) (mkRat 114 5) (mkRat 76 5) (by decide) (wL [xD] (by simp) (by simpa using Fy)) (wK [xD] (by simp) (by simpa using Fy)) (qB.mono (fS 50 (by decide)) (by decide)) (jO 50) rfl Ff) rfl (fun e σ w vs hW hd=>?_),?_⟩
 ·obtain ⟨v1,vs1,rfl,d1,hd1⟩:=bV hd;obtain ⟨v2,vs2,rfl,d2,hd2⟩:=bV hd1;obtain ⟨v3,vs3,rfl,d3,hd3⟩:=bV hd2;obtain ⟨v4,vs4,rfl,d4,hd4⟩:=bV hd3;obtain ⟨us,rfl,du⟩:=d1;exact ⟨⟨us,rfl,mz (nt:=50) (na:=49) (n1:=708) (n2:=715) (t1:=[xC (-1) 12]) (t2:=[xP 0,xP 1]) hW du (by rfl) (by rfl) (by rfl) (by rfl)⟩,cE eS (by rfl) d2,cE eS (by rfl) d3,cE eS (by rfl) d4,(by cases vs4 with|nil=>exact trivial|cons v vs=>exact hd4.elim)⟩
 rintro res H' nx' ⟨rfl,rfl,rfl⟩;simp only [dD,seval,(id SD)];refine aQ [0,5,6,7,8] [] ?_;simp only [dD,seval];refine awR [] [0,0,115,0,0,121,0,0,127,0,0] ?_;simp only [dD,seval];refine awX ?_;(first|(simp only [dD,seval];done)|(simp only [dD,seval];first|(simp [];done)))
end Go.Proofs.YtokmkopihhnggaaGreatDoor
