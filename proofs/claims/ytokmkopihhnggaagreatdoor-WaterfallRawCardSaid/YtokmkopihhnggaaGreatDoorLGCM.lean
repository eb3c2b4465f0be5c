/- GuaranteeCheck: the law's own function; walked by the abstract machine. -/
import Derived.Test.YtokmkopihhnggaaGreatDoorFewM
import Derived.Test.YtokmkopihhnggaaGreatDoorPl3M
import Derived.Test.YtokmkopihhnggaaGreatDoorWf6M
import Derived.Test.YtokmkopihhnggaaGreatDoorBl5M
import Derived.Test.YtokmkopihhnggaaGreatDoorAbBM
import Derived.Test.YtokmkopihhnggaaGreatDoorAbZM
set_option linter.unusedVariables false
set_option maxHeartbeats 4000000
set_option maxRecDepth 100000
set_option linter.unusedSimpArgs false
set_option linter.defProp false
set_option linter.unusedSectionVars false
namespace Go.Proofs.YtokmkopihhnggaaGreatDoor
open Go Go.RowKit Go.Proofs.Tryz
theorem Ba {P:Program} {f:FuncId} {args:List A1} {vs:List Value} {w:World} (h:aR P f args (one (.bool true))) (hd:dh (fd w) vs args):
  Calls P f vs.toArray w fun e w'=>e= .returned (.bool true)/\Below w.heap.size w w':=
 (h.2 w (LT w.heap.size) vs (fun _ h=>h) hd).mono fun e w' ⟨v,he,hb,hv⟩=>by
  have:v= .bool true:=hv.1;subst this;exact ⟨he,hb⟩
theorem zz {α:Type} {enc:α->List C} {ok:α->Prop} {W:World} {v:Value} {a:α} (o:∃cs:Array Value,v= .agg cs/\rC enc ok W (LT W.heap.size) cs.toList a):bl (fd W) v (.agg (enc a))/\ok a:=by
 obtain ⟨cs,rfl,h,k⟩:=o;exact ⟨⟨cs.toList,by simp,h⟩,k⟩
end Go.Proofs.YtokmkopihhnggaaGreatDoor
namespace Go.Proofs.YtokmkopihhnggaaGreatDoor
open Go Go.RowKit Go.ChangeShapes Go.WideShapes Go.ChangeAt Go.Proofs.Tryz

end Go.Proofs.YtokmkopihhnggaaGreatDoor
namespace Go.Proofs.YtokmkopihhnggaaGreatDoor
open Go Go.RowKit Go.Proofs.Tryz
section
variable {P : Program} {e : En} {k0 : Kx} {N : Nat} {st : St} {a : Act} {w : World} {Q : Exit → St → Prop} {c : Code}
theorem vX {t nm s:Nat} {B:Blk} (hB:st.H nm=some B) (hsz:B.sz≠0) (hs:B.st=s) (htm:st.tm t= .val (.one (.ptr nm s 0))) (hr:Rel e k0 N st a w):Rel e k0 N ⟨up st.tm t (.val (.one (.sp B.cs))),up st.H nm none,st.nx,st.nb⟩ a w:=by
 obtain ⟨σ,h1,h2,h3⟩:=hr.ex;obtain ⟨k1,k2⟩:=h1.drop nm;have hv:=h2 t;rw [htm] at hv;obtain ⟨b,q1,q2,xs,q3,q4⟩:=iE h1 hv hB hs;have hlt:=h1.lt hB (eN q1);refine ⟨⟨σ,k1,fun t'=>?_,h3.trans k2⟩,hr.df,hr.sz⟩;show aY (kx e (up st.H nm none) st.nx σ w) _ (up st.tm t _ t');by_cases htt:t'=t
 ·subst htt;rw [bI];simp only [aY,bl,den];refine ⟨b,0,q2,⟨.inr hlt.1,hlt.2,fun nm' B' hB'=>?_⟩,?_⟩
  ·have hB'':up st.H nm none nm'=some B':=hB';by_cases h0:nm'=nm
   ·subst h0;rw [bI] at hB'';cases hB''
   rw [cA _ _ h0] at hB'';intro e1;exact h1.inj nm' nm B' B hB'' hB h0 b e1 (eN q1)
  refine denM.of_vals (ep k2 q4) fun j u hu=>?_
  have hadd:(⟨b,0,none⟩:Addr).add j=⟨b,0+j,none⟩:=by unfold Addr.add;split<;>simp_all
  have:=q3.cells (g:=b) q1 j u hu;rw [hadd] at this;exact this
 rw [cA _ _ htt];exact dY k2 (h2 t')
theorem vY {t nm s:Nat} {B:Blk} (htm:st.tm t= .val (.one (.ptr nm s 0))) (hB:st.H nm=some B) (hsz:B.sz≠0) (hs:B.st=s) (h:Awp P e k0 N c Q ⟨up st.tm t (.val (.one (.sp B.cs))),up st.H nm none,st.nx,st.nb⟩):Awp P e k0 N c Q st:=cm (fun _ _ hr=>vX hB hsz hs htm hr) h
end
section
variable {P : Program} {e : En} {k0 : Kx} {N : Nat} {st : St} {Q : Exit → St → Prop} {c : Code}
theorem cg {H0:Hp} (hH:∀y B,H0 y=some B->st.H y=some B) (h:Awp P e k0 N c Q ⟨st.tm,H0,st.nx,st.nb⟩):Awp P e k0 N c Q st:=
 cm (fun _ _ hr=>jq (k0:=k0) st.tm H0 (fun _=> .inl rfl) hH hr) h
end
noncomputable def cQ (q:Rat):List C:=ai (enc q)
theorem bH (q:Rat):(cQ q).length=3:=rfl
theorem ap (q:Rat):al (cQ q)=true:=AP _
noncomputable def cWP (p:WP):List C:= .lit (.int .i64 p.1)::ai (enc p.2)
theorem og (p:WP):(cWP p).length=4:=rfl
theorem bB (p:WP):al (cWP p)=true:=rfl
noncomputable def cWT (t:WT):List C:= .sh 4 t.length (aA cWP t)::ai (enc (av t))
theorem kl (t:WT):(cWT t).length=4:=rfl
theorem aw (t:WT):al (cWT t)=true:=by simp [cWT,ai,al,ax,ab bB]
noncomputable def cY (p:bX):List C:=[.sh 1 p.1.length (aA cI p.1),.sh 4 p.2.length (aA cWT p.2)]
theorem ko (p:bX):(cY p).length=2:=rfl
theorem ar (p:bX):al (cY p)=true:=by simp [cY,al,ax,ab bg,ab aw]
noncomputable def bL (L:WL):List C:= .lit (.int .i64 (L.count:Int)):: .sh 4 L.ranks.length (aA cWT L.ranks):: .sh 2 L.pools.length (aA cY L.pools)::ai (enc L.total)
def tcs (A B:List C) (x:C) (s:GRat):List C:=A++(x::(ai s++B))
section
variable (A B : List C) (x y : C) (s s' : GRat)
theorem tQ:(tcs A B x s).length=A.length+(4+B.length):=by simp [tcs,ai];omega
theorem Iq:(tcs A B x s).drop A.length=x::(ai s++B):=by simp [tcs]
theorem Ir:(tcs A B x s).drop (A.length+1)=ai s++B:=by rw [←List.drop_drop,Iq];rfl
theorem zA:(tcs A B x s)[A.length]? =some x:=by simp [tcs]
theorem Dg:spl (tcs A B x s) A.length [y]=tcs A B y s:=by
 unfold tcs;exact tt A [x] (ai s++B) [y] rfl
theorem Dh:spl (tcs A B x s) (A.length+1) (ai s')=tcs A B x s':=by
 have h:=tt (A++[x]) (ai s) B (ai s') rfl;simp only [List.append_assoc,List.length_append,List.length_cons,List.length_nil,List.cons_append,List.nil_append] at h;exact h
end
theorem ja (n:Nat):dq n [C.lit (.bool false),C.lit (.string ay),C.lit (.string ay)]=aA cQ (List.replicate n 0):=by
 induction n with
 |zero=>rfl
 |succ n ih=>
  rw [List.replicate_succ,cf,←ih,j9];unfold cQ;rw [←fZ];rfl
theorem bf:ai (enc 0)=[.lit (.bool false),.lit (.string ay),.lit (.string ay)]:=by rw [←fZ];rfl
theorem GR (r:GRat) (h1:r.num.size<=500000000000) (h2:r.den.size<=500000000000):aR prog 78 [.agg (ai r)] (.val (.agg (ai (enc (qOf r))))):=
 bj (ch func78 (by decide) (by kernel_rfl)) [aF r] (aF (enc (qOf r))) fun w=>ck r w h1 h2
theorem zB (p:Rat) (m:Nat) (hp:qB m p) (hm:m<=100000000000):aR prog 78 [.agg (ai (enc p))] (.val (.agg (ai (enc p)))):=by
 have h:=GR (enc p) (by have:=(dT hp).1;omega) (by have:=(dT hp).2;omega);rwa [ci] at h
theorem Is (q:Rat):aR prog 86 [.agg (ai (enc q))] (one (.string (aj q.den))):=
 bj (ch func86 (by decide) (by kernel_rfl)) [aF (enc q)] (.string (aj q.den)) fun w=>gF q w
theorem Fm (a b:ByteArray) (ha:a.size<=500000000000) (hb:b.size<=500000000000):aR prog 85 [.one (.lit (.string a)),.one (.lit (.string b))] (one (.string (aj (ah a*ah b)))):=
 bj (ch func85 (by decide) (by kernel_rfl)) [.string a,.string b] (.string (aj (ah a*ah b))) fun w=>dl a b w ha hb
theorem Fn (s:ByteArray) (hs:s.size<=400000000000):aR prog 134 [.one (.lit (.string s))] (one (.string (aj (ah s)))):=
 bj (ch func134 (by decide) (by kernel_rfl)) [.string s] (.string (aj (ah s))) fun w=>(bJ s w (by unfold maxLen;omega)).mono fun e w' ⟨h1,h2⟩=>⟨h1,h2▸Below.refl _ _⟩
theorem Di (neg:Bool) (a b:ByteArray) (ha:a.size<=400000000000) (hb:b.size<=400000000000) (hd:0<ah b):aR prog 88 [.one (.lit (.bool neg)),.one (.lit (.string a)),.one (.lit (.string b))] (.val (.agg (ai (enc (mkRat (sg neg (ah a)) (ah b)))))):=
 bj (ch func88 (by decide) (by kernel_rfl)) [.bool neg,.string a,.string b] (aF (enc (mkRat (sg neg (ah a)) (ah b)))) fun w=>ez neg a b w ha hb hd
theorem sj (p q:Rat) (m n:Nat) (hp:qB m p) (hq:qB n q) (hm:m<=100000000000) (hn:n<=100000000000):aR prog 31 [.agg (ai (enc p)),.agg (ai (enc q))] (.val (.agg (ai (enc (p+q))))):=by
 have h:=EG (enc p) (enc q) m n (dT hp) (dT hq) hm hn hp.pos hq.pos;rwa [ci,ci] at h
theorem zC (p q:Rat) (m n:Nat) (hp:qB m p) (hq:qB n q) (hm:m<=100000000000) (hn:n<=100000000000):aR prog 39 [.agg (ai (enc p)),.agg (ai (enc q))] (.val (.agg (ai (enc (p-q))))):=by
 have h:=I6 (enc p) (enc q) m n (dT hp) (dT hq) hm hn hp.pos hq.pos;rwa [ci,ci] at h
theorem It (p q:Rat) (m n:Nat) (hp:qB m p) (hq:qB n q) (hm:m<=100000000000) (hn:n<=100000000000):aR prog 38 [.agg (ai (enc p)),.agg (ai (enc q))] (.val (.agg (ai (enc (p*q))))):=by
 have h:=I7 (enc p) (enc q) m n (dT hp) (dT hq) hm hn hp.pos hq.pos;rwa [ci,ci] at h
theorem Dj (n:Nat):(aj n={data:= #[]})↔n=0:=⟨fun h=>lT.1 (by rw [h];rfl),fun h=>by subst h;exact gA⟩
theorem Dk (z:Int):mkRat z 0=0:=by simp [mkRat]
theorem Fo (p q:Rat):mkRat (sg (bc p !=bc q) (p.num.natAbs*q.den)) (p.den*q.num.natAbs)=p/q:=by
 by_cases h:q=0
 ·subst h;rw [Rat.div_def,Rat.inv_zero,Rat.mul_zero];simp [Dk]
 exact (yT h).symm
theorem GS (q:Rat):q.num.natAbs=0↔q=0:=by simp
def F28:=And.intro zS (And.intro cD (And.intro gH (dN)))
theorem F29:type_of%F28:=F28
theorem GT (neg:Bool) (a b:ByteArray) (ha:a.size<=400000000000) (hb:b.size<=400000000000):aR prog 211 [.one (.lit (.bool neg)),.one (.lit (.string a)),.one (.lit (.string b))] (.tup [.agg (ai (enc (mkRat (sg neg (ah a)) (ah b)))),.one (.lit (.bool (decide (ah b≠0))))]):=by
 refine aP func211 rfl (by decide) (N:=16) rfl (by simp) (R:=[.cell 6 32,.tmp 7]) rfl fun en k0=>?_
 refine awN ?_;simp only [F29,seval];by_cases h0:ah b=0
 ·skip;have hx:aj (ah b)={data:= #[]}:=(Dj _).2 h0;refine awN ?_;simp only [F29,seval];refine ⟨_,(Fn b hb),rfl,?_⟩;try simp only [ak,F29,seval,hx]
  refine awT ?_;refine awN ?_;simp only [F29,seval];refine awX ?_;simp only [F29,seval];rw [h0,Dk,←fZ];simp [ai,gZ,ay]
 skip;have hx:¬aj (ah b)={data:= #[]}:=fun h=>h0 ((Dj _).1 h)
 refine awN ?_;simp only [F29,seval];refine ⟨_,(Fn b hb),rfl,?_⟩;try simp only [ak,F29,seval,hx]
 refine awF ?_;refine awK ?_;simp only [F29,seval];refine awN ?_;simp only [F29,seval,ai];refine ⟨_,(Di neg a b ha hb (Nat.pos_of_ne_zero h0)),rfl,?_⟩;try simp only [ak,F29,seval,ai]
 refine awX ?_;simp only [F29,seval];simp [h0]
def F30:=And.intro zS (And.intro I0 (And.intro Es (And.intro cD (And.intro tu (And.intro Et (And.intro Ht (dN)))))))
theorem F31:type_of%F30:=F30
theorem ES (p q:Rat) (m n:Nat) (hp:qB m p) (hq:qB n q) (hm:m<=100000000000) (hn:n<=100000000000):aR prog 173 [.agg (ai (enc p)),.agg (ai (enc q))] (.tup [.agg (ai (enc (p/q))),.one (.lit (.bool (decide (q≠0))))]):=by
 have s1:(aj p.num.natAbs).size<=m:=NB.size hp.1;have s2:(aj q.num.natAbs).size<=n:=NB.size hq.1;have s3:(aj p.den).size<=m:=NB.size hp.2;have s4:(aj q.den).size<=n:=NB.size hq.2;have nx:(aj (p.num.natAbs*q.den)).size<=m+n:=NB.size (NB.mul hp.1 hq.2);have ny:(aj (p.den*q.num.natAbs)).size<=m+n:=NB.size (NB.mul hp.2 hq.1);have hMk:=GT (bc p !=bc q) (aj (p.num.natAbs*q.den)) (aj (p.den*q.num.natAbs)) (by omega) (by omega);rw [aE,aE,Fo] at hMk;have hd0:decide (p.den*q.num.natAbs≠0)=decide (q≠0):=by
  have h1:=p.den_pos;have h2:=GS q;by_cases h3:q=0
  ·simp [h3]
  have h4:q.num.natAbs≠0:=fun h=>h3 (h2.1 h)
  have h5:p.den*q.num.natAbs≠0:=Nat.mul_ne_zero (by omega) h4;simp [h3,h5]
 rw [hd0] at hMk;have hMk2:aR prog 211 [.one (.lit (.bool (!(enc p).neg==(enc q).neg))),.one (.lit (.string (aj (p.num.natAbs*q.den)))),.one (.lit (.string (aj (p.den*q.num.natAbs))))] (.tup [.agg (ai (enc (p/q))),.one (.lit (.bool (decide (q≠0))))]):=hMk;simp only [ai] at hMk2;refine aP func173 rfl (by decide) (N:=28) rfl (by simp) (R:=[.cell 4 32,.tmp 5]) rfl fun en k0=>?_
 refine awN ?_;simp only [F31,seval,ai];refine awD (scq [1,5,2,6,8,10] .nil) [0,0,0,0,0,0] ?_;simp only [F31,seval];refine ⟨_,(zB p m hp (by omega)),rfl,?_⟩;try simp only [ak,F31,seval,ai]
 refine ⟨_,(zB q n hq (by omega)),rfl,?_⟩;try simp only [ak,F31,seval,ai]
 refine awD (scT 0 8 (scq [21,25,27,16,18,22,28,30,33,35,36,39] .nil)) [0,0,0,0,0,0,0,0,0,0,0,0,0,0,0,0,0,0,0,0] ?_;simp only [F31,seval];refine ⟨_,(Is q),rfl,?_⟩;try simp only [ak,F31,seval]
 refine ⟨_,(Fm (aj p.num.natAbs) (aj q.den) (by omega) (by omega)),rfl,?_⟩;try simp only [ak,F31,seval,aE]
 refine ⟨_,(Is p),rfl,?_⟩;try simp only [ak,F31,seval]
 refine ⟨_,(Fm (aj p.den) (aj q.num.natAbs) (by omega) (by omega)),rfl,?_⟩;try simp only [ak,F31,seval,aE]
 refine ⟨_,hMk2,rfl,?_⟩;try simp only [ak,F31,seval]
 refine awX ?_;(first|(simp only [F31,seval];done)|(simp only [F31,seval,ai];first|(simp [];done)))
def F32:=And.intro zS (And.intro Gf (And.intro Gg (And.intro Eu (And.intro Gh (And.intro cD (And.intro I1 (Gi)))))))
theorem F33:type_of%F32:=F32
theorem qe (H:Hp) (ny nm s sz n pn sp:Nat) (E:TypeId) (A B:List C) (t:WT) (c:Int) (x:Rat) (hsz:sz≠0) (hnm:H nm=some ⟨s,E,sz,n,tcs A B (.own pn sp t.length 4) (enc (av t))⟩) (hp:H pn=some ⟨sp,230,4,t.length,aA cWP t⟩) (hne:nm≠pn) (F:∀k,3000<=k->k<3015->(nm=k)=False/\(k=nm)=False/\(pn=k)=False/\(k=pn)=False) (F1:nm≠3015)
  (hbH:∀y B,H y=some B->y<3000∨3015<=y) (hl:t.length<=1000000) (hc: -1<=c/\c<=1000000) (h1:qB 50000000000 (av t)) (h2:qB 50000000000 x):cT prog 127 [.one (.ptr nm s A.length),.one (.lit (.int .i64 c)),.agg (ai (enc x))] H ny
  (fun res H' _=>res= .tup []/\∀y B',up (up (up H pn none) 3015 (some ⟨ny+2,230,4,t.length+1,aA cWP (t++[(c,x)])⟩)) nm (some ⟨s,E,sz,n,tcs A B (.own 3015 (ny+2) (t.length+1) 4) (enc (av t+x))⟩) y=some B'->H' y=some B'):=by
 have G:(nm=3015)=False/\(3015=nm)=False/\(nm=pn)=False/\(pn=nm)=False:=⟨by simp [F1],by simp [F1.symm],by simp [hne],by simp [hne.symm]⟩;have hA:=sj (av t) x 50000000000 50000000000 h1 h2 (by decide) (by decide);have ts1:=fun X=>Dh A B X (enc (av t)) (enc (av t+x))
 simp only [ai] at hA ts1;refine cF 3000 func127 rfl (by decide) (N:=27) rfl (by simp) (Rl:=[]) rfl fun en k0=>?_
 refine awN ?_;simp only [F33,seval,ai];refine awD (scT 0 8 (scq [16,18,21,23,24] .nil)) [0,0,0,0,0,0,0,0,0,0,0,0,0] ?_;simp only [F33,seval,G,tQ A B,hnm,hp,F,zA A B,Dg A B];repeat refine ob ?_
 refine awD (scT 0 6 (scq [12,15,17,18] .nil)) [0,0,0,0,0,0,0,0,0,0] ?_;simp only [F33,seval,ai,F,Ir A B,tQ A B];repeat refine ob ?_
 refine ⟨_,hA,rfl,?_⟩;try simp only [ak,F33,seval,ts1,tQ A B]
 repeat refine ob ?_
 try refine ⟨rfl,?_⟩
 intro y B h;try simp only [aB] at h ⊢
 by_cases hy:y=nm
 ·simp only [hy,if_true] at h ⊢;exact h
 simp only [hy,if_false] at h ⊢;by_cases hy2:y=3015
 ·simp only [hy2,if_true] at h ⊢;simpa [a7,cWP,ai] using h
 simp only [hy2,if_false] at h ⊢;by_cases hy3:y=pn
 ·simp only [hy3,if_true] at h ⊢;exact h
 simp only [hy3,if_false] at h ⊢;have h9:=hbH y B h;repeat rw [if_neg (by omega)]
 exact h
def F34:=And.intro zS (And.intro pt (And.intro ll (And.intro AY (And.intro Gj (And.intro nX (cD))))))
theorem F35:type_of%F34:=F34
theorem Dl (H:Hp) (ny s sc n:Nat) (R:WR) (c:Int) (x:Rat) (h50:H 50=some ⟨s,200,4,1,.own 48 sc n 3::ai (enc R.rv)⟩) (h48:H 48=some ⟨sc,32,3,n,aA cQ R.cl⟩) (hn:R.cl.length=n) (hbH:∀y B,H y=some B->y<9000) (hl:n<=1000000) (hc:inR n c) (h1:R.B 50000000000) (h2:qB 50000000000 x):cT prog 167 [.one (.ptr 50 s 0),.one (.lit (.int .i64 c)),.agg (ai (enc x))] H ny
  (fun res H' _=>res= .tup []/\∀y B',bZ H [(50,⟨s,200,4,1,.own 48 sc n 3::ai (enc (R.add c x).rv)⟩),(48,⟨sc,32,3,n,aA cQ (R.add c x).cl⟩)] y=some B'->H' y=some B'):=by
 have hci:c= -1∨0<=c/\c<n:=hc;refine cF 9000 func167 rfl (by decide) (N:=32) rfl (by simp) (Rl:=[]) rfl fun en k0=>?_
 refine awN ?_;simp only [F35,seval,ai];by_cases hc0:c= -1
 ·refine awN ?_;simp only [F35,seval,hc0];refine awT ?_;have hA1:=sj R.rv x 50000000000 50000000000 h1.2 h2 (by decide) (by decide);simp only [ai] at hA1;refine awD (scT 0 6 (scq [12,15,17,18] .nil)) [0,0,0,0,0,0,0,0,0,0] ?_;simp only [F35,seval,ai,h50];refine ⟨_,hA1,rfl,?_⟩;try simp only [ak,F35,seval,ai,h50]
  refine awX ?_;simp only [F35,seval];try refine ⟨rfl,?_⟩
  intro y B h;simp only [WR.add,if_true] at h ⊢;by_cases hy:y=50
  ·subst hy;first|exact h|(simpa [h50,ai] using h)
  simp only [hy,if_false] at h ⊢;by_cases hy2:y=48
  ·subst hy2;first|exact h|(simpa [h48] using h)
  simp only [hy2,if_false] at h ⊢;have h9:=hbH y B h;repeat rw [if_neg (by omega)]
  exact h
 refine awN ?_;simp only [F35,seval,hc0];refine awF ?_;refine awK ?_;simp only [F35,seval];obtain ⟨k,hk⟩:∃k:Nat,c=(k:Int):=⟨c.toNat,by omega⟩;subst hk;have hkn:k<R.cl.length:=by omega
 have hat:=aO bH R.cl k hkn;have hgd:R.cl.getD k 0=R.cl[k]:=by rw [List.getD_eq_getElem?_getD,List.getElem?_eq_getElem hkn];rfl
 have hA2:=sj R.cl[k] x 50000000000 50000000000 (h1.1 _ (List.getElem_mem hkn)) h2 (by decide) (by decide);have hset:=dP bH R.cl k (R.cl[k]+x) hkn;have hfl:=bo bH R.cl;simp only [cQ,ai] at hA2 hset hat;have hct:((k:Int)).toNat=k:=Int.toNat_natCast k;refine awD (scT 0 13 (scq [26,29,30] .nil)) [0,0,0,0,0,0,0,0,0,0,0,0,0,0,0,0] ?_;simp only [F35,seval,ai,h50,h48,hat,hfl];repeat refine ob ?_
 refine ⟨_,hA2,rfl,?_⟩;try simp only [ak,F35,seval,h48,hset,hfl]
 repeat refine ob ?_
 try refine ⟨rfl,?_⟩
 intro y B h;simp only [WR.add,hc0,if_false,Int.toNat_natCast,hgd] at h ⊢;by_cases hy:y=50
 ·subst hy;first|exact h|(simpa [h50,ai] using h)
 simp only [hy,if_false] at h ⊢;by_cases hy2:y=48
 ·subst hy2;first|exact h|(simpa [h48] using h)
 simp only [hy2,if_false] at h ⊢;have h9:=hbH y B h;repeat rw [if_neg (by omega)]
 exact h
theorem Fp (p q:Rat) (hp:qB 50000000000 p) (hq:qB 50000000000 q):aR prog 34 [.agg (ai (enc p)),.agg (ai (enc q))] (one (.int .i64 (dM p q))):=by
 have h:=CD (enc p) (enc q) 50000000000 50000000000 (dT hp) (dT hq) (by decide) (by decide) (by decide) (by decide);rwa [ci,ci] at h
def vZ (k:Nat) (l:List WT) (m:Rat):Nat×Rat:=(k+(aG l m).1,(aG l m).2)
theorem Dm (k:Nat) (m:Rat):vZ k [] m=(k,m):=rfl
theorem Bb (k:Nat) (t:WT) (l:List WT) (m:Rat):vZ k (t::l) m=if m<av t then (k,m) else vZ (k+1) l (m-av t):=by
 unfold vZ;by_cases h:m<av t
 ·simp [aG,h]
 simp only [aG,h,if_false];rw [Nat.add_assoc,Nat.add_comm 1]
theorem sl (l:List WT) (m:Rat):vZ 0 l m=aG l m:=by unfold vZ;simp
theorem onW {H f:Hp} {b:Nat} (hbH:∀y B,H y=some B->y<b) (hf:∀x,x<b->x≠50->x≠48->f x=H x) (l:List Nat) (h1:fA l 50=true) (h2:fA l 48=true):∀x B,H x=some B->fA l x=true∨f x=some B:=fun x B hB=>by
 by_cases e1:x=50
 ·subst e1;exact .inl h1
 by_cases e2:x=48
 ·subst e2;exact .inl h2
 exact .inr (by rw [hf x (hbH x B hB) e1 e2];exact hB)
noncomputable def spR (x:Nat×Rat):AV:= .tup [.one (.lit (.int .i64 (x.1:Int))),.agg (ai (enc x.2))]
def F36:=And.intro zS (And.intro CH (And.intro AZ (And.intro Eu (And.intro cD (And.intro Ev (And.intro dN (Ew)))))))
theorem F37:type_of%F36:=F36
theorem tR (l:List WT) (m0:Rat) (K S M:Nat) (hl:wOK K S l) (hM:qB M m0) (hS:S<=50000000000) (hB:M+l.length*(S+1)<=50000000000):aR prog 166 [.one (.sh 4 l.length (aA cWT l)),.agg (ai (enc m0))] (spR (aG l m0)):=by
 refine aP func166 rfl (by decide) (N:=30) rfl (by simp) (R:=[.tmp 4,.cell 5 32]) rfl fun en k0=>?_
 refine awN ?_;simp only [F37,seval,ai];refine awN ?_;simp only [F37,seval];have hV0:qB (M+0*(S+1)) m0:=hM.mono (by omega);have hll:=hl.1;refine aQ [0,3,5,8,9,10] [3,5] ?_;try simp only [ak,F37,seval]
 repeat' first|apply awS|apply awB
 refine aM (fun n st=>∃i0 m nx,i0<=l.length/\n=l.length-i0/\vZ i0 (l.drop i0) m=vZ 0 l m0/\qB (M+i0*(S+1)) m/\st=⟨mkT [(0,.val (.one (.sh 4 l.length (aA cWT l)))),(3,.val (.one (.ptr 3 0 0))),(5,.val (.one (.ptr 5 1 0))),(8,.val (.one (.sh 4 l.length (aA cWT l)))),(9,one (.int .i64 l.length)),(10,one (.int .i64 i0))],mkH [(3,⟨0,32,3,1,ai (enc m)⟩),(5,⟨1,32,3,1,[.lit (.bool false),.lit (.string ay),.lit (.string ay)]⟩)],nx,0⟩) (l.length) ⟨0,m0,_,by omega,by omega,by rfl,(by first|omega|assumption|rfl|simp|(simp;omega)),rfl⟩ ?_;rintro n0 st ⟨i0,m,nx0,hk0,rfl,hL0,hV0_1,rfl⟩;by_cases hlt0:i0<l.length
 ·have hI0:(i0:Int)<(l.length:Int):=by omega
  have hat0:=aO kl l i0 hlt0;try rw [Nat.mul_one] at hat0
  rw [List.drop_eq_getElem_cons hlt0] at hL0;have hsz:=hl.2 _ (List.getElem_mem hlt0);have hVm:=hV0_1;have hmul:(i0+1)*(S+1)<=l.length*(S+1):=Nat.mul_le_mul_right _ hlt0;have hmul1:(i0+1)*(S+1)=i0*(S+1)+(S+1):=Nat.succ_mul _ _;have hnx:=(hVm.sub hsz.2.1).mono (n:=M+(i0+1)*(S+1)) (by omega);generalize l[i0]=t at *
  simp only [Bb] at hL0;refine awN ?_;simp only [F37,seval,ai,hI0];refine awT ?_;refine awK ?_;simp only [F37,seval];refine awN ?_;simp only [F37,seval,ai,hI0,hat0,cWT];repeat refine ob ?_
  by_cases hq:dM m (av t)<0
  ·have hm:m<av t:=(fh _ _).1 hq;have hC:=Fp m (av t) (hVm.mono (by omega)) (hsz.2.1.mono (by omega));simp only [ai] at hC;refine awN ?_;simp only [F37,seval];refine ⟨_,hC,rfl,?_⟩;try simp only [ak,F37,seval,hq]
   refine awT ?_;refine awD (scq [1,3,5,6] .nil) [0,0,0,0] ?_;simp only [F37,seval];refine awX ?_;simp only [F37,seval];rw [sl] at hL0;simp [←hL0,spR,hm,ai]
  have hm:¬m<av t:=fun h=>hq ((fh _ _).2 h)
  have hC:=Fp m (av t) (hVm.mono (by omega)) (hsz.2.1.mono (by omega));simp only [ai] at hC;refine awN ?_;simp only [F37,seval];refine ⟨_,hC,rfl,?_⟩;try simp only [ak,F37,seval,hq]
  refine awF ?_;refine awK ?_;simp only [F37,seval];have hA:=zC m (av t) _ _ hVm hsz.2.1 (by omega) (by omega);simp only [ai] at hA;refine awN ?_;simp only [F37,seval];refine ⟨_,hA,rfl,?_⟩;try simp only [ak,F37,seval]
  refine awN ?_;simp only [F37,seval];repeat refine ob ?_
  refine ⟨_,aI [0,3,5,8,9,10] [3,5],l.length-(i0+1),by omega,i0+1,(m-av t),?a10_nx,by omega,rfl,?i10_0,?i10_1,?st10⟩;case st10=>(simp only [F37,seval];first|rfl|(simp [hI0,hat0,hq,hm,Nat.add_mul];done))
  case i10_0=>(first|exact hL0|(rw [←hL0];simp only [reduceIte,hm];done)|(rw [←hL0];simp [hI0,hat0,hq,hm];done)|(simp [hI0,hat0,hq,hm] at hL0;simpa using hL0)|(rw [←hL0];simp [*];done))
  all_goals (first|omega|assumption|(simp;omega)|(simp_all;done))
 obtain rfl:i0=l.length:=by omega
 have hI0:¬(l.length:Int)<(l.length:Int):=by omega
 rw [List.drop_length] at hL0;simp only [Dm] at hL0;refine awN ?_;simp only [F37,seval,ai,hI0];refine awF ?_;refine awQ ?_;simp only [F37,seval];refine awD (scT 0 4 (scq [8] .nil)) [0,0,0,0,0] ?_;simp only [F37,seval];refine awX ?_;simp only [F37,seval];rw [sl] at hL0;simp [←hL0,spR,ai]
def F38:=And.intro zS (And.intro Hu (And.intro Gf (And.intro Hv (And.intro Hw (And.intro Gg (And.intro Eu (And.intro Gh (And.intro cD (And.intro jz (And.intro Hx (And.intro dN (Gi))))))))))))
theorem F39:type_of%F38:=F38
theorem zD (H:Hp) (ny s sc nn:Nat) (R0:WR) (t:WT) (a:Rat) (K A Sm C Z:Nat) (h50:H 50=some ⟨s,200,4,1,.own 48 sc nn 3::ai (enc R0.rv)⟩) (h48:H 48=some ⟨sc,32,3,nn,aA cQ R0.cl⟩) (hR0:R0.cl.length=nn) (hbH:∀y B,H y=some B->y<8000) (hl:nn<=1000000) (htl:t.length<=1000) (hin:wIn nn t) (hA0:qB A a) (hS0:qB Sm (av t)) (hK:∀p∈t,qB K p.2) (hC:R0.B C) (hZ:K+(A+Sm)<=Z) (hB:C+t.length*(Z+1)<=50000000000) (hZb:Z<=50000000000):cT prog 168 [.one (.ptr 50 s 0),.agg (cWT t),.agg (ai (enc a))] H ny
  (fun res H' _=>res= .tup []/\∀y B',bZ H [(50,⟨s,200,4,1,.own 48 sc nn 3::ai (enc (eK (a/av t) t R0).rv)⟩),(48,⟨sc,32,3,nn,aA cQ (eK (a/av t) t R0).cl⟩)] y=some B'->H' y=some B'):=by
 refine cF 8000 func168 rfl (by decide) (N:=33) rfl (by simp) (Rl:=[]) rfl fun en k0=>?_
 refine awN ?_;simp only [F39,seval,ai,cWT];have hA:=ES a (av t) A Sm hA0 hS0 (by omega) (by omega);simp only [ai] at hA;refine awN ?_;simp only [F39,seval];refine ⟨_,hA,rfl,?_⟩;try simp only [ak,F39,seval]
 refine awN ?_;simp only [F39,seval];have hQ:qB (A+Sm) (a/av t):=hA0.div hS0;generalize a/av t=q at *
 have hV0:R0.B (C+0*(Z+1)):=hC.mono (by omega);refine eC H [0,6,18,19,20] [50,48,8006] (onW hbH (fun x h1 h2 h3=>by simp only [aB];repeat rw [if_neg (by omega)]) _ (by rfl) (by rfl)) ?_;try simp only [ak,F39,seval,ai,h50,h48]
 repeat' first|apply awS|apply awB
 refine aM (fun n st=>∃i0 R nx,i0<=t.length/\n=t.length-i0/\eK q (t.drop i0) R=eK q t R0/\R.cl.length=nn/\R.B (C+i0*(Z+1))/\st=⟨mkT [(0,.val (.one (.ptr 50 s 0))),(6,.val (.one (.ptr 8006 (ny+2) 0))),(18,.val (.one (.sh 4 t.length (aA cWP t)))),(19,one (.int .i64 t.length)),(20,one (.int .i64 i0))],bZ H [(50,⟨s,200,4,1,.own 48 sc nn 3::ai (enc R.rv)⟩),(48,⟨sc,32,3,nn,aA cQ R.cl⟩),(8006,⟨(ny+2),32,3,1,ai (enc q)⟩)],nx,8000⟩) (t.length) ⟨0,R0,_,by omega,by omega,by rfl,(by first|omega|assumption|rfl|simp|(simp;omega)),(by first|omega|assumption|rfl|simp|(simp;omega)),rfl⟩ ?_;rintro n0 st ⟨i0,R,nx0,hk0,rfl,hL0,hV0_1,hV0_2,rfl⟩;by_cases hlt0:i0<t.length
 ·skip;have hI0:(i0:Int)<(t.length:Int):=by omega
  have hat0:=aO og t i0 hlt0;try rw [Nat.mul_one] at hat0
  rw [List.drop_eq_getElem_cons hlt0] at hL0;have hxm:=(List.getElem_mem hlt0);have hRn:=hV0_1;have hRB:=hV0_2;have hmul:(i0+1)*(Z+1)<=t.length*(Z+1):=Nat.mul_le_mul_right _ hlt0;have hmul1:(i0+1)*(Z+1)=i0*(Z+1)+(Z+1):=Nat.succ_mul _ _;have hnx:=(eE hRB (t[i0]).1 (((hK _ hxm).mul hQ).mono hZ)).mono (n:=C+(i0+1)*(Z+1)) (by omega);have hnl:=bU R (t[i0]).1 ((t[i0]).2*q);generalize t[i0]=x at *
  simp only [eK] at hL0;refine awN ?_;simp only [F39,seval,ai,hI0];refine awT ?_;refine awK ?_;simp only [F39,seval];refine awN ?_;simp only [F39,seval,ai,hI0,hat0,cWP];repeat refine ob ?_
  have hA5:=It x.2 q _ _ (hK _ hxm) hQ (by omega) (by omega);simp only [ai] at hA5;repeat' first|apply awS|apply awB
  refine cb [31] (by kernel_rfl) (.cons 0 true (.cons 1 true (.cons 2 true (.cons 3 true (.cons 4 true (.cons 5 true (.cons 6 false (.cons 7 false .nil)))))))) (by kernel_rfl) (gs:=[none,none,none,none,none,none,none,none]) (by kernel_rfl) (by simp only [zT,seval];rfl) (by decide) ?_;simp only [F39,seval,(id SD)];refine ⟨_,hA5,rfl,?_⟩;try simp only [ak,F39,seval,ai,h50,h48,hI0,hat0,cWP]
  repeat refine ob ?_
  refine ⟨_,Dl _ _ s sc nn R x.1 (x.2*q) (by rfl) (by rfl) hRn (fun y B h=>?_) (by omega) (hin _ hxm) (hRB.mono (by omega)) (((hK _ hxm).mul hQ).mono (by omega)),?_⟩
  ·simp only [aB] at h;repeat (split at h;· omega)
   have h9:=hbH y B h;omega
  rintro res H' nx' ⟨rfl,hW⟩;simp only [F39,seval];refine cg hW ?_;simp only [F39,seval];refine awN ?_;simp only [F39,seval,ai];repeat refine ob ?_
  refine ⟨_,fP H [0,6,18,19,20] [50,48,8006] (onW hbH (fun x h1 h2 h3=>by simp only [aB];repeat rw [if_neg (by omega)]) _ (by rfl) (by rfl)),t.length-(i0+1),by omega,i0+1,(R.add x.1 (x.2*q)),?a7_nx,by omega,rfl,?i7_0,?i7_1,?i7_2,?st7⟩;case st7=>(simp only [F39,seval];first|rfl|(simp [hI0,hat0,Nat.add_mul];done))
  case i7_0=>(first|exact hL0|(rw [←hL0];simp only [reduceIte,hI0,hat0];done)|(rw [←hL0];simp [hI0,hat0];done)|(simp [hI0,hat0] at hL0;simpa using hL0)|(rw [←hL0];simp [*];done))
  all_goals (first|omega|assumption|(simp;omega)|(simp_all;done))
 skip;obtain rfl:i0=t.length:=by omega
 have hI0:¬(t.length:Int)<(t.length:Int):=by omega
 rw [List.drop_length] at hL0;simp only [eK] at hL0;refine awN ?_;simp only [F39,seval,ai,hI0];refine awF ?_;refine awQ ?_;simp only [F39,seval];try refine ⟨rfl,?_⟩
 intro y B h;simp only [←hL0] at h;try simp only [bZ,aB] at h ⊢
 by_cases hy:y=50
 ·subst hy;first|exact h|(simpa [h50,ai] using h)
 simp only [hy,if_false] at h ⊢;by_cases hy2:y=48
 ·subst hy2;first|exact h|(simpa [h48] using h)
 simp only [hy2,if_false] at h ⊢;have h9:=hbH y B h;repeat rw [if_neg (by omega)]
 exact h
theorem x6 (l:List WT) (k:Nat):wN (l.take k)<=wN l:=by
 have:=iV (l.take k) (l.drop k);rw [List.take_append_drop] at this;omega
def F40:=And.intro zS (And.intro Hu (And.intro CH (And.intro Gf (And.intro AZ (And.intro Hv (And.intro Hw (And.intro Gg (And.intro Gh (And.intro cD (And.intro jz (And.intro Hx (And.intro Ev (And.intro dN (And.intro Gi (Ew)))))))))))))))
theorem F41:type_of%F40:=F40
theorem Fq (H:Hp) (ny s sc nn:Nat) (R0:WR) (l:List WT) (m:Rat) (K Sm M C Z:Nat) (h50:H 50=some ⟨s,200,4,1,.own 48 sc nn 3::ai (enc R0.rv)⟩) (h48:H 48=some ⟨sc,32,3,nn,aA cQ R0.cl⟩) (hR0:R0.cl.length=nn) (hbH:∀y B,H y=some B->y<7000) (hn:nn<=1000000) (hl:wOK K Sm l) (hin:∀t∈l,wIn nn t) (hM:qB M m) (hC:R0.B C) (hZ:K+(M+l.length*(Sm+1))+Sm<=Z) (hB:C+wN l*(Z+1)<=50000000000) (hZb:Z<=40000000000):cT prog 131 [.one (.sh 4 l.length (aA cWT l)),.agg (ai (enc m)),.one (.ptr 50 s 0)] H ny
  (fun res H' _=>res= .tup []/\∀y B',bZ H [(50,⟨s,200,4,1,.own 48 sc nn 3::ai (enc (gJ l m R0).rv)⟩),(48,⟨sc,32,3,nn,aA cQ (gJ l m R0).cl⟩)] y=some B'->H' y=some B'):=by
 obtain ⟨fu,lf,hsp⟩:∃fu lf,aG l m=(fu,lf):=⟨_,_,rfl⟩;have hfl:fu<=l.length:=by have:=kc l m;rw [hsp] at this;exact this
 have hlfB:=jE l m M (fun t ht=>(hl.2 t ht).2.1) hM;rw [hsp] at hlfB;simp only at hlfB;obtain ⟨l1,hl1⟩:∃l1,l1=l.take fu:=⟨_,rfl⟩;have hl1n:l1.length=fu:=by rw [hl1,List.length_take];omega
 subst hl1n;have hft:List.take (l1.length*4) (aA cWT l)=aA cWT l1:=by rw [AS kl,←hl1]
 have hll:=hl.1;have hwl0:wN l<=1000000:=by
  have h1:∀l:List WT,(∀t∈l,t.length<=1000)->wN l<=l.length*1000:=by
   intro l;induction l with
   |nil=>intro _;simp [wN]
   |cons t l ih=>
    intro h;have h1:=ih fun x hx=>h x (by simp [hx])
    have h2:=h t (by simp);simp only [wN,List.length_cons];omega
  have:=h1 l fun t ht=>(hl.2 t ht).1
  omega
 refine cF 7000 func131 rfl (by decide) (N:=52) rfl (by simp) (Rl:=[]) rfl fun en k0=>?_
 refine awN ?_;simp only [F41,seval,ai];have hA:=tR l m K Sm M hl hM (by omega) (by omega);rw [hsp] at hA;simp only [spR,ai] at hA;refine awN ?_;simp only [F41,seval,ab aw];refine ⟨_,hA,(by first|rfl|simp [aU,aD,al,ax,A1.cells,ab aw]),?_⟩;try simp only [ak,F41,seval]
 refine awN ?_;simp only [F41,seval,hft,Nat.sub_zero];repeat refine ob ?_
 have hV0:R0.B (C+0*(K+1)):=hC.mono (by omega);refine eC H [0,2,6,7,20,21,22] [50,48,7007] (onW hbH (fun x h1 h2 h3=>by simp only [aB];repeat rw [if_neg (by omega)]) _ (by rfl) (by rfl)) ?_;try simp only [ak,F41,seval,ai,h50,h48]
 repeat' first|apply awS|apply awB
 refine aM (fun n st=>∃i0 R w nx,i0<=l1.length/\n=l1.length-i0/\fE (l1.drop i0) R=fE l1 R0/\R.cl.length=nn/\R.B (C+w*(K+1))/\w+wN (l1.drop i0)=wN l1/\st=⟨mkT [(0,.val (.one (.sh 4 l.length (aA cWT l)))),(2,.val (.one (.ptr 50 s 0))),(6,one (.int .i64 l1.length)),(7,.val (.one (.ptr 7007 (ny+1) 0))),(20,.val (.one (.sh 4 l1.length (aA cWT l1)))),(21,one (.int .i64 l1.length)),(22,one (.int .i64 i0))],bZ H [(50,⟨s,200,4,1,.own 48 sc nn 3::ai (enc R.rv)⟩),(48,⟨sc,32,3,nn,aA cQ R.cl⟩),(7007,⟨ny+1,32,3,1,ai (enc lf)⟩)],nx,7000⟩) (l1.length) ⟨0,R0,0,_,by omega,by omega,by rfl,(by first|omega|assumption|rfl|simp|(simp;omega)),(by first|omega|assumption|rfl|simp|(simp;omega)),(by first|omega|assumption|rfl|simp|(simp;omega)),rfl⟩ ?_;rintro n0 st ⟨i0,R,w,nx0,hk0,rfl,hL0,hV0_1,hV0_2,hV0_3,rfl⟩;by_cases hlt0:i0<l1.length
 ·have hI0:(i0:Int)<(l1.length:Int):=by omega
  have hat0:=aO kl l1 i0 hlt0;try rw [Nat.mul_one] at hat0
  rw [List.drop_eq_getElem_cons hlt0] at hL0;have htm:l1[i0]∈l:=List.mem_of_mem_take (i:=l1.length) (by rw [←hl1];exact (List.getElem_mem hlt0));have hsz:=hl.2 _ htm;have hRn:=hV0_1;have hRB:=hV0_2;have hw0:=hV0_3;rw [List.drop_eq_getElem_cons hlt0] at hw0;simp only [wN] at hw0;have hmw:(w+(l1[i0]).length)*(K+1)=w*(K+1)+(l1[i0]).length*(K+1):=Nat.add_mul _ _ _;have hwl2:w+(l1[i0]).length<=wN l:=by have:=x6 l l1.length;rw [←hl1] at this;omega
  have hm1:(w+(l1[i0]).length)*(K+1)<=wN l*(Z+1):=Nat.mul_le_mul hwl2 (by omega);generalize l1[i0]=t at *
  simp only [fE] at hL0;refine awN ?_;simp only [F41,seval,ai,hI0];refine awT ?_;refine awK ?_;simp only [F41,seval];refine awN ?_;simp only [F41,seval,ai,hI0,hat0,cWT];repeat refine ob ?_
  refine awN ?_;simp only [F41,seval];have hV1:R.B (C+w*(K+1)+0*(K+1)):=hRB.mono (by omega);refine eC H [0,2,6,7,20,21,22,27,28,29] [50,48,7007] (onW hbH (fun x h1 h2 h3=>by simp only [aB];repeat rw [if_neg (by omega)]) _ (by rfl) (by rfl)) ?_;try simp only [ak,F41,seval]
  repeat' first|apply awS|apply awB
  refine aM (fun n st=>∃i1 R2 nx,i1<=t.length/\n=t.length-i1/\gV (t.drop i1) R2=gV t R/\R2.cl.length=nn/\R2.B (C+w*(K+1)+i1*(K+1))/\st=⟨mkT [(0,.val (.one (.sh 4 l.length (aA cWT l)))),(2,.val (.one (.ptr 50 s 0))),(6,one (.int .i64 l1.length)),(7,.val (.one (.ptr 7007 (ny+1) 0))),(20,.val (.one (.sh 4 l1.length (aA cWT l1)))),(21,one (.int .i64 l1.length)),(22,one (.int .i64 i0)),(27,.val (.one (.sh 4 t.length (aA cWP t)))),(28,one (.int .i64 t.length)),(29,one (.int .i64 i1))],bZ H [(50,⟨s,200,4,1,.own 48 sc nn 3::ai (enc R2.rv)⟩),(48,⟨sc,32,3,nn,aA cQ R2.cl⟩),(7007,⟨ny+1,32,3,1,ai (enc lf)⟩)],nx,7000⟩) (t.length) ⟨0,R,_,by omega,by omega,by rfl,(by first|omega|assumption|rfl|simp|(simp;omega)),(by first|omega|assumption|rfl|simp|(simp;omega)),rfl⟩ ?_;rintro n1 st ⟨i1,R2,nx1,hk1,rfl,hL1,hV1_1,hV1_2,rfl⟩;by_cases hlt1:i1<t.length
  ·have hI1:(i1:Int)<(t.length:Int):=by omega
   have hat1:=aO og t i1 hlt1;try rw [Nat.mul_one] at hat1
   rw [List.drop_eq_getElem_cons hlt1] at hL1;have hxm:=(List.getElem_mem hlt1);have hRn2:=hV1_1;have hRB2:=hV1_2;have hmul:(i1+1)*(K+1)<=t.length*(K+1):=Nat.mul_le_mul_right _ hlt1;have hmul1:(i1+1)*(K+1)=i1*(K+1)+(K+1):=Nat.succ_mul _ _;have hnx:=(eE hRB2 (t[i1]).1 (hsz.2.2 _ hxm)).mono (n:=C+w*(K+1)+(i1+1)*(K+1)) (by omega);have hnl:=bU R2 (t[i1]).1 (t[i1]).2;generalize t[i1]=x at *
   simp only [gV] at hL1;refine awN ?_;simp only [F41,seval,ai,hI1];refine awT ?_;refine awK ?_;simp only [F41,seval];refine awN ?_;simp only [F41,seval,ai,hI1,hat1,cWP];repeat refine ob ?_
   refine awR [38] [0,0,0,0,0,0] ?_;simp only [F41,seval];refine ⟨_,Dl _ _ s sc nn R2 x.1 x.2 (by rfl) (by rfl) hRn2 (fun y B h=>?_) (by omega) (hin _ htm _ hxm) (hRB2.mono (by omega)) ((hsz.2.2 _ hxm).mono (by omega)),?_⟩
   ·simp only [aB] at h;repeat (split at h;· omega)
    have h9:=hbH y B h;omega
   rintro res H' nx' ⟨rfl,hW⟩;simp only [F41,seval];refine cg hW ?_;simp only [F41,seval];refine awN ?_;simp only [F41,seval,ai];repeat refine ob ?_
   refine ⟨_,fP H [0,2,6,7,20,21,22,27,28,29] [50,48,7007] (onW hbH (fun x h1 h2 h3=>by simp only [aB];repeat rw [if_neg (by omega)]) _ (by rfl) (by rfl)),t.length-(i1+1),by omega,i1+1,(R2.add x.1 x.2),?a10_nx,by omega,rfl,?i10_0,?i10_1,?i10_2,?st10⟩;case st10=>(simp only [F41,seval];first|rfl|(simp [hI0,hat0,hI1,hat1,Nat.add_mul];done))
   case i10_0=>(first|exact hL1|(rw [←hL1];simp only [reduceIte,hI0,hat0,hI1,hat1];done)|(rw [←hL1];simp [hI0,hat0,hI1,hat1];done)|(simp [hI0,hat0,hI1,hat1] at hL1;simpa using hL1)|(rw [←hL1];simp [*];done))
   all_goals (first|omega|assumption|(simp;omega)|(simp_all;done))
  obtain rfl:i1=t.length:=by omega
  have hI1:¬(t.length:Int)<(t.length:Int):=by omega
  rw [List.drop_length] at hL1;simp only [gV] at hL1;have hV1e:R2.B (C+(w+t.length)*(K+1)):=hV1_2.mono (by omega);refine awN ?_;simp only [F41,seval,ai,hI1];refine awF ?_;refine awQ ?_;simp only [F41,seval];refine awN ?_;simp only [F41,seval];repeat refine ob ?_
  refine ⟨_,fP H [0,2,6,7,20,21,22] [50,48,7007] (onW hbH (fun x h1 h2 h3=>by simp only [aB];repeat rw [if_neg (by omega)]) _ (by rfl) (by rfl)),l1.length-(i0+1),by omega,i0+1,(R2),(w+t.length),?a13_nx,by omega,rfl,?i13_0,?i13_1,?i13_2,?i13_3,?st13⟩;case st13=>(simp only [F41,seval];first|rfl|(simp [hI0,hat0,hI1,Nat.add_mul];done))
  case i13_0=>(first|exact hL0|(rw [←hL0];simp [←hL1];done)|(rw [←hL0];simp only [reduceIte,hI0,hat0,hI1];done)|(rw [←hL0];simp [hI0,hat0,hI1];done)|(simp [hI0,hat0,hI1] at hL0;simpa using hL0)|(rw [←hL0];simp [*];done))
  all_goals (first|omega|assumption|(simp;omega)|(simp_all;done))
 obtain rfl:i0=l1.length:=by omega
 have hI0:¬(l1.length:Int)<(l1.length:Int):=by omega
 rw [List.drop_length] at hL0;simp only [fE] at hL0;refine awN ?_;simp only [F41,seval,ai,hI0];refine awF ?_;refine awQ ?_;simp only [F41,seval];by_cases hk:(l1.length:Int)<(l.length:Int)
 ·refine awN ?_;simp only [F41,seval,hk];refine awT ?_;have hkl:l1.length<l.length:=by omega
  have hat:=aO kl l l1.length hkl;obtain ⟨t,ht⟩:∃t,l[l1.length]=t:=⟨_,rfl⟩;rw [ht] at hat;have htm:t∈l:=ht▸List.getElem_mem hkl;have hgt:l.getD l1.length []=t:=by rw [List.getD_eq_getElem?_getD,List.getElem?_eq_getElem hkl,ht];rfl
  have hRn:=hV0_1;have hsz:=hl.2 t htm;have hwl:w+t.length<=wN l:=by have h8:=vI l l1.length hkl;rw [←hl1,ht] at h8;omega
  have hm1:w*(K+1)<=w*(Z+1):=Nat.mul_le_mul_left _ (by omega);have hm2:(w+t.length)*(Z+1)<=wN l*(Z+1):=Nat.mul_le_mul_right _ hwl;have hm3:(w+t.length)*(Z+1)=w*(Z+1)+t.length*(Z+1):=Nat.add_mul _ _ _;repeat' first|apply awS|apply awB
  refine cb [51] (by kernel_rfl) (.cons 0 true (.cons 1 true (.cons 2 true (.cons 3 true (.cons 4 true (.cons 5 true (.cons 6 false .nil))))))) (by kernel_rfl) (gs:=[none,none,none,none,none,none,none]) (by kernel_rfl) (by simp only [zT,seval];rfl) (by decide) ?_;simp only [F41,seval,ai,hk,hat,cWT,(id SD)];repeat refine ob ?_
  refine ⟨_,zD _ _ s sc nn R t lf K (M+l.length*(Sm+1)) Sm (C+w*(K+1)) Z (by rfl) (by rfl) hRn (fun y B h=>?_) (by omega) hsz.1 (hin _ htm) hlfB hsz.2.1 hsz.2.2 hV0_2 (by omega) (by omega) (by omega),?_⟩
  ·simp only [aB] at h;repeat (split at h;· omega)
   have h9:=hbH y B h;omega
  rintro res H' nx' ⟨rfl,hW⟩;simp only [F41,seval,(id SD)];try refine ⟨rfl,?_⟩
  intro y B h;have hpay:gJ l m R0=eK (lf/av t) t R:=by unfold gJ dU;rw [hsp];simp only;rw [if_pos hkl,hgt,←hl1,←hL0]
  rw [hpay] at h;refine hW y B ?_;try simp only [bZ,aB] at h ⊢
  by_cases hy:y=50
  ·subst hy;first|exact h|(simpa [h50,ai] using h)
  simp only [hy,if_false] at h ⊢;by_cases hy2:y=48
  ·subst hy2;first|exact h|(simpa [h48] using h)
  simp only [hy2,if_false] at h ⊢;have h9:=hbH y B h;repeat rw [if_neg (by omega)]
  exact h
 refine awN ?_;simp only [F41,seval,hk];refine awF ?_;refine awK ?_;simp only [F41,seval];try refine ⟨rfl,?_⟩
 intro y B h;have hpay:gJ l m R0=R:=by unfold gJ dU;rw [hsp];simp only;rw [if_neg (by omega),←hl1,←hL0]
 rw [hpay] at h;try simp only [bZ,aB] at h ⊢
 by_cases hy:y=50
 ·subst hy;first|exact h|(simpa [h50,ai] using h)
 simp only [hy,if_false] at h ⊢;by_cases hy2:y=48
 ·subst hy2;first|exact h|(simpa [h48] using h)
 simp only [hy2,if_false] at h ⊢;have h9:=hbH y B h;repeat rw [if_neg (by omega)]
 exact h
def F42:=And.intro zS (And.intro pt (And.intro Eq (And.intro ll (And.intro tf7 (And.intro Gk (And.intro Gl (And.intro cD (And.intro jz (And.intro gH (dN))))))))))
theorem F43:type_of%F42:=F42
theorem mp (p:bX) (g:List Rat) (gn:Nat) (hgn:g.length=gn) (G:Nat) (hi:∀i∈p.1,0<=i/\i<(g.length:Int)) (hG:∀x∈g,qB G x) (hGb:G<=50000000000) (hn:p.1.length<=1000000) (hgl:g.length<=1000000) (hB:1+p.1.length*(G+1)<=100000000000):aR prog 132 [.agg (cY p),.one (.sh 3 gn (aA cQ g))] (.val (.agg (ai (enc (aK g p.1))))):=by
 subst hgn;refine aP func132 rfl (by decide) (N:=24) rfl (by simp) (R:=[.cell 4 32]) rfl fun en k0=>?_
 refine awN ?_;simp only [F43,seval,ai,cY];refine awN ?_;simp only [F43,seval];refine awN ?_;simp only [F43,seval];refine cm (dz 5 (ai (enc 0)) (by rfl) (by show (3:Nat)≠0;decide) (by rfl) (fun κ vs h=>by rw [bf];exact h)) ?_;have hq0:qB (1+0*(G+1)) (0:Rat):=bW.mono (by omega);simp only [F43,seval];refine aQ [1,4,5,10,11,12] [4,5] ?_;try simp only [ak,F43,seval,ai]
 repeat' first|apply awS|apply awB
 refine aM (fun n st=>∃i0 q nx,i0<=p.1.length/\n=p.1.length-i0/\q+aK g (p.1.drop i0)=0+aK g p.1/\qB (1+i0*(G+1)) q/\st=⟨mkT [(1,.val (.one (.sh 3 g.length (aA cQ g)))),(4,.val (.one (.ptr 4 1 0))),(5,.val (.one (.ptr 5 2 0))),(10,.val (.one (.sh 1 p.1.length (aA cI p.1)))),(11,one (.int .i64 p.1.length)),(12,one (.int .i64 i0))],mkH [(4,⟨1,32,3,1,[.lit (.bool false),.lit (.string ay),.lit (.string ay)]⟩),(5,⟨2,32,3,1,ai (enc q)⟩)],nx,0⟩) (p.1.length) ⟨0,0,_,by omega,by omega,by rfl,(by first|omega|assumption|rfl|simp|(simp;omega)),rfl⟩ ?_;rintro n0 st ⟨i0,q,nx0,hk0,rfl,hL0,hV0_1,rfl⟩;by_cases hlt0:i0<p.1.length
 ·have hI0:(i0:Int)<(p.1.length:Int):=by omega
  have hat0:=aO mO p.1 i0 hlt0;try rw [Nat.mul_one] at hat0
  rw [List.drop_eq_getElem_cons hlt0] at hL0;obtain ⟨k,hxk⟩:∃k:Nat,p.1[i0]=(k:Int):=⟨(p.1[i0]).toNat,by have:=hi _ (List.getElem_mem hlt0);omega⟩;have hkg:k<g.length:=by have:=hi _ (List.getElem_mem hlt0);omega
  have hVq:=hV0_1;have hmul:(i0+1)*(G+1)<=p.1.length*(G+1):=Nat.mul_le_mul_right _ hlt0;have hmul1:(i0+1)*(G+1)=i0*(G+1)+(G+1):=Nat.succ_mul _ _;have hnx:=(hVq.add (hG _ (List.getElem_mem hkg))).mono (n:=1+(i0+1)*(G+1)) (by omega);have hgk:g.getD k 0=g[k]:=by rw [List.getD_eq_getElem?_getD,List.getElem?_eq_getElem hkg];rfl
  simp only [hxk] at *
  generalize p.1[i0]=x at *
  simp only [aK] at hL0;refine awN ?_;simp only [F43,seval,ai,hI0];refine awT ?_;refine awK ?_;simp only [F43,seval];refine awN ?_;simp only [F43,seval,hI0,hat0,cI];repeat refine ob ?_
  have hA:=sj q g[k] _ G hVq (hG _ (List.getElem_mem hkg)) (by omega) (by omega);simp only [ai] at hA;have hatg:=aO bH g k hkg;simp only [cQ,ai] at hatg;refine awD (scT 0 5 (scq [10,12] .nil)) [0,0,0,0,0,0,0] ?_;simp only [F43,seval,hatg];repeat refine ob ?_
  refine ⟨_,hA,rfl,?_⟩;try simp only [ak,F43,seval]
  refine awN ?_;simp only [F43,seval];repeat refine ob ?_
  refine ⟨_,aI [1,4,5,10,11,12] [4,5],p.1.length-(i0+1),by omega,i0+1,(q+g[k]),?a7_nx,by omega,rfl,?i7_0,?i7_1,?st7⟩;case st7=>(simp only [F43,seval];first|rfl|(simp [hI0,hat0,Nat.add_mul];done))
  case i7_0=>(simp only [Int.toNat_natCast,hgk] at hL0;rw [←hL0];grind)
  all_goals (first|omega|assumption|(simp;omega)|(simp_all;done))
 obtain rfl:i0=p.1.length:=by omega
 have hI0:¬(p.1.length:Int)<(p.1.length:Int):=by omega
 rw [List.drop_length] at hL0;simp only [aK] at hL0;refine awN ?_;simp only [F43,seval,ai,hI0];refine awF ?_;refine awQ ?_;simp only [F43,seval];refine awN ?_;simp only [F43,seval];refine awX ?_;simp only [F43,seval];have hq9:q=aK g p.1:=by grind
 simp [hq9]
end Go.Proofs.YtokmkopihhnggaaGreatDoor
