/- The waterfall's own check of its examples; walked by the abstract machine. -/
import Derived.Test.YtokmkopihhnggaaGreatDoorWl6M
import Derived.Test.YtokmkopihhnggaaGreatDoorFewM
import Derived.Test.YtokmkopihhnggaaGreatDoorRw5M
import Derived.Test.YtokmkopihhnggaaGreatDoorPl3M
set_option linter.unusedVariables false
set_option maxHeartbeats 4000000
set_option maxRecDepth 100000
set_option linter.unusedSimpArgs false
set_option linter.defProp false
set_option linter.unusedSectionVars false
namespace Go.Proofs.YtokmkopihhnggaaGreatDoor
open Go Go.RowKit Go.Proofs.Tryz
theorem nQ : (prog.fieldsOf 32).toList = [⟨"Neg", 4, 0, false, "", "", 0⟩, ⟨"Num", 9, 1, false, "", "", 8⟩, ⟨"Den", 9, 2, false, "", "", 24⟩] := by kernel_rfl
theorem yd:ldT prog 4=some (false,1):=by kernel_rfl
theorem tU:ldT prog 9=some (false,1):=by kernel_rfl
theorem lC (cs:Array Value) (i:Nat) (v:Value) (h:cs[i]? =some v) (w:World):(part 4 cs i).run prog w= .ok v w:=by
 simp [part,(lG yd w).1,h]
theorem gl (cs:Array Value) (i:Nat) (v:Value) (h:cs[i]? =some v) (w:World):(part 9 cs i).run prog w= .ok v w:=by
 simp [part,(lG tU w).1,h]
theorem go (a:GRat):DY prog 32 [.bool a.neg,.string a.num,.string a.den] [.bool a.neg,.string a.num,.string a.den]:=fun w=>⟨by
 obtain ⟨x,y,z⟩:=a;have h2:=run_equalIn_agg (P:=prog) w 9999 32 #[.bool x,.string y,.string z] #[.bool x,.string y,.string z] (by kernel_rfl) (by kernel_rfl);have h3:(Op.equal 32 (.agg #[.bool x,.string y,.string z]) (.agg #[.bool x,.string y,.string z])).run prog w=(Op.equalIn (9999+1) 32 (.agg #[.bool x,.string y,.string z]) (.agg #[.bool x,.string y,.string z])).run prog w:=rfl;have hb:=fun (a b:Bool)=>run_equalIn_bool' (P:=prog) w 9998 4 a b (by kernel_rfl)
 have hs:=fun (a b:ByteArray)=>run_equalIn_string (P:=prog) w 9998 9 a b (by kernel_rfl)
 have p0:=lC #[.bool x,.string y,.string z] 0 _ rfl w;have p1:=gl #[.bool x,.string y,.string z] 1 _ rfl w;have p2:=gl #[.bool x,.string y,.string z] 2 _ rfl w;show (Op.equal 32 (.agg #[.bool x,.string y,.string z]) (.agg #[.bool x,.string y,.string z])).run prog w=_;rw [h3,h2,nQ];have n1 : ¬ "Neg" = "_" := by decide
 have n2 : ¬ "Num" = "_" := by decide
 have n3 : ¬ "Den" = "_" := by decide
 simp only [Op.eqFields,ne_eq,n1,n2,n3,not_false_eq_true,if_true,Sem.run_bind,p0,Result.andThen_ok];simp [hb,hs,p1,p2,jn,eqV],by kernel_rfl⟩
theorem gv (a:GRat):jn [.bool a.neg,.string a.num,.string a.den] [.bool a.neg,.string a.num,.string a.den]=true:=by simp [jn,eqV]
theorem fV (n:Int) (h0: -1000000<=n) (h1:n<=1000000):aR prog 52 [.one (.lit (.int .i64 n))] (.val (.agg (ai (enc (n:Rat))))):=Ik n (by omega) (by omega)
def jd:List GClaim:=[⟨-1,2,enc 60⟩,⟨-1,2,enc 40⟩]
noncomputable def exE (ags:List bR):GEst:=⟨gZ,jd,ags⟩
section
variable {P : Program} {e : En} {H : Hp} {nx : Nat} {σ : Nat → Value} {w : World}
theorem ye (hW:RW e H nx σ w) {nt st na sa:Nat} {E E':TypeId} {t1 t2:List GPart} {v:Value} (hd:den (kx e H nx σ w) v (.own nt st 2 1)) (h1:H nt=some ⟨st,E,1,2,[.sh 5 t1.length (aA bT t1),.own na sa t2.length 5]⟩) (h2:H na=some ⟨sa,E',5,t2.length,aA bT t2⟩):
  den (fd w) v (.sh 1 2 (aA bD [t1,t2])):=by
 refine kj hW hd h1 rfl (by show (1:Nat)≠0;decide) fun xs hx=>?_
 obtain ⟨v1,vs1,rfl,d1,hx⟩:=cv hx;obtain ⟨v2,vs2,rfl,d2,hx⟩:=cv hx;cases vs2 with
 |nil=>exact ⟨dK eS (by simp [ax,ab d9]) d1,kj hW d2 h2 rfl (by show (5:Nat)≠0;decide) (fun ys hy=>iI eS (ab d9 _) hy),trivial⟩
 |cons v vs=>exact hx.elim
theorem mz (hW:RW e H nx σ w) {n1 n2 nt st na sa sx sy:Nat} {E E' E1 E2:TypeId} {t1 t2:List GPart} {vs:List Value}
  (hd:denVs (kx e H nx σ w) vs [.lit (.bool false),.lit (.string ay),.lit (.string ay),.own n1 sx 2 5,.own n2 sy 1 1]) (h1:H nt=some ⟨st,E,1,2,[.sh 5 t1.length (aA bT t1),.own na sa t2.length 5]⟩) (h2:H na=some ⟨sa,E',5,t2.length,aA bT t2⟩)
  (h3:H n1=some ⟨sx,E1,5,2,aA b0 jd⟩) (h4:H n2=some ⟨sy,E2,1,1,[.own nt st 2 1]⟩):denVs (fd w) vs (aJ (exE [[t1,t2]])):=by
 obtain ⟨v1,vs1,rfl,d1,hd⟩:=cv hd;obtain ⟨v2,vs2,rfl,d2,hd⟩:=cv hd;obtain ⟨v3,vs3,rfl,d3,hd⟩:=cv hd;obtain ⟨v4,vs4,rfl,d4,hd⟩:=cv hd;obtain ⟨v5,vs5,rfl,d5,hd⟩:=cv hd;have k4:=kj hW d4 h3 rfl (by show (5:Nat)≠0;decide) (fun ys hy=>iI eS (ab ao _) hy);have k5:den (fd w) v5 (.sh 1 1 (aA bu [[t1,t2]])):=kj hW d5 h4 rfl (by show (1:Nat)≠0;decide) fun xs hx=>by
  obtain ⟨u1,us1,rfl,f1,hx⟩:=cv hx;cases us1 with
  |nil=>exact ⟨ye hW f1 h1 h2,trivial⟩
  |cons v vs=>exact hx.elim
 cases vs5 with
 |nil=>exact ⟨d1,d2,d3,k4,k5,trivial⟩
 |cons v vs=>exact hd.elim
end
def F60:=And.intro zS (And.intro EB (And.intro EC (And.intro pt (And.intro cD (H5)))))
theorem F61:type_of%F60:=F60
theorem qr (e:GEst) (m:Int) (a b:Rat) (hm0: -1000<=m/\m<=1000) (hI:eIn e 1 2 24 12) (h0:bv e=0) (hmB:qB 2 (m:Rat)) (hmp:cx (enc (m:Rat))=(m:Rat)) (hn2:e.claims.length=2) (hcl:(eQ (az e) (m:Rat)).cl=[a,b]):aR prog 73 [.agg (aJ e),.one (.lit (.int .i64 m)),.agg (ai (enc a)),.agg (ai (enc b))] (one (.bool true)):=by
 refine aP func73 rfl (by decide) (N:=41) rfl (by simp) (R:=[.tmp 8]) rfl fun en k0=>?_
 refine awN ?_;simp only [F61,seval,ai,aJ];have hI0:=fV m (by omega) (by omega);have hD:=yb e (enc (m:Rat)) 1 2 24 12 hI (dT hmB);rw [hmp] at hD;simp only [dlR,h0,if_true,hn2] at hD;simp only [ai] at hI0 hD;refine awD (scq [1,3] (.two 2 8 (.two 3 8 (scT 4 4 (scq [16,19,20,23] .nil)) (scq [6] (scT 4 4 (scq [19,20,23] .nil)))) (scq [4,6] (scT 4 4 (scq [19,20,23] .nil))))) [0,0,0,0,0,0,0,0,0,0,0,0] ?_;simp only [F61,seval];refine ⟨?_,?_⟩
 ·refine ⟨_,hI0,(by first|rfl|simp [aU,aD,al,ax,A1.cells,ab ap]),?_⟩;try simp only [ak,F61,seval,ab ao,ab au]
  refine ⟨?_,?_⟩
  ·refine ⟨_,hD,(by first|rfl|simp [aD,al,ax,A1.cells,ab ap]),?_⟩;try simp only [ak,F61,seval]
   have q1:=go (enc a);have q2:=gv (enc a);have q3:=go (enc b);have q4:=gv (enc b);have hfl:aA cQ [a,b]=ai (enc a)++(ai (enc b)++[]):=rfl;simp only [ai,List.cons_append,List.nil_append] at hfl;refine awD (scT 0 22 .nil) [0,0,0,47,47,47,0,0,57,57,57,57,57,0,0,71,71,71,71,71,0,0] ?_;simp only [F61,seval,hcl,hfl,q1,q2,q3,q4];refine awX ?_;simp only [F61,seval];try simp
  refine ⟨_,hD,(by first|rfl|simp [aD,al,ax,A1.cells,ab ap]),?_⟩;try simp only [ak,F61,seval]
  have q1:=go (enc a);have q2:=gv (enc a);have q3:=go (enc b);have q4:=gv (enc b);have hfl:aA cQ [a,b]=ai (enc a)++(ai (enc b)++[]):=rfl;simp only [ai,List.cons_append,List.nil_append] at hfl;refine awD (scT 0 22 .nil) [0,0,0,47,47,47,0,0,57,57,57,57,57,0,0,71,71,71,71,71,0,0] ?_;simp only [F61,seval,hcl,hfl,q1,q2,q3,q4];refine awX ?_;simp only [F61,seval];try simp
 refine ⟨_,hI0,(by first|rfl|simp [aU,aD,al,ax,A1.cells,ab ap]),?_⟩;try simp only [ak,F61,seval,ab ao,ab au]
 refine ⟨_,hD,(by first|rfl|simp [aD,al,ax,A1.cells,ab ap]),?_⟩;try simp only [ak,F61,seval]
 have q1:=go (enc a);have q2:=gv (enc a);have q3:=go (enc b);have q4:=gv (enc b);have hfl:aA cQ [a,b]=ai (enc a)++(ai (enc b)++[]):=rfl;simp only [ai,List.cons_append,List.nil_append] at hfl;refine awD (scT 0 22 .nil) [0,0,0,47,47,47,0,0,57,57,57,57,57,0,0,71,71,71,71,71,0,0] ?_;simp only [F61,seval,hcl,hfl,q1,q2,q3,q4];refine awX ?_;simp only [F61,seval];try simp
theorem EZ {κ:Kx} {vs:List Value} (h:denVs κ vs [.lit (.bool false),.lit (.string ay),.lit (.string ay),.sh 5 2 [.lit (.int .i64 (-1)),.lit (.int .i64 2),.lit (.bool (enc ((60:Int):Rat)).neg),.lit (.string (enc ((60:Int):Rat)).num),.lit (.string (enc ((60:Int):Rat)).den),.lit (.int .i64 (-1)),.lit (.int .i64 2),.lit (.bool (enc ((40:Int):Rat)).neg),.lit (.string (enc ((40:Int):Rat)).num),.lit (.string (enc ((40:Int):Rat)).den)],.lit (.slice none 0 0)]):denVs κ vs (aJ (exE [])):=by
 obtain ⟨v1,vs1,rfl,d1,h⟩:=cv h;obtain ⟨v2,vs2,rfl,d2,h⟩:=cv h;obtain ⟨v3,vs3,rfl,d3,h⟩:=cv h;obtain ⟨v4,vs4,rfl,d4,h⟩:=cv h;obtain ⟨v5,vs5,rfl,d5,h⟩:=cv h;exact ⟨d1,d2,d3,d4,m5 1 d5,h⟩
def F62:=And.intro zS (And.intro tf2 (And.intro tv (And.intro mN (And.intro tw (And.intro tz (And.intro pt (And.intro Gj (And.intro CP (And.intro I3 (And.intro AX (And.intro xF (Ez))))))))))))
theorem F63:type_of%F62:=F62
theorem Iy:aR prog 74 [.one (.lit (.slice none 0 0))] (.val (.agg (aJ (exE [])))):=by
 refine aP func74 rfl (by decide) (N:=18) rfl (by simp) (R:=[.cell 2 36]) rfl fun en k0=>?_
 refine awN ?_;simp only [F63,seval];have h60:=fV 60 (by decide) (by decide);have h40:=fV 40 (by decide) (by decide);simp only [ai] at h60 h40;refine awN ?_;simp only [F63,seval];refine ⟨_,h60,rfl,?_⟩;try simp only [ak,F63,seval]
 refine ⟨_,h40,rfl,?_⟩;try simp only [ak,F63,seval]
 refine awN ?_;simp only [F63,seval];refine awF ?_;refine awK ?_;simp only [F63,seval];refine dp 8 3 3 (by rfl) (by rfl) (by rfl) (by decide) (by show (5:Nat)≠0;decide) (by show (5:Nat)≠0;decide) rfl ?_;refine cm (dz 3 (aJ (exE [])) (by rfl) (by show (5:Nat)≠0;decide) (by rfl) (fun κ vs h=>EZ h)) ?_;simp only [F63,seval];refine awN ?_;simp only [F63,seval,aJ];refine awX ?_;simp only [F63,seval,ab ao,ab au];try simp [aJ,ab ao,ab au]
def F64:=And.intro zS (And.intro tf2 (And.intro tv (And.intro mN (And.intro tw (And.intro tz (And.intro pt (And.intro Gj (And.intro CP (And.intro I3 (And.intro AX (And.intro xF (Ez))))))))))))
theorem F65:type_of%F64:=F64
theorem DD (H:Hp) (ny nt st:Nat) (hnt:∃B,H nt=some B/\B.st=st) (hbH:∀y B,H y=some B->y<700):cT prog 74 [.one (.own nt st 2 1)] H ny
  (fun res H' _=>∃sx sy s2 cs2,res= .val (.agg [.lit (.bool false),.lit (.string ay),.lit (.string ay),.own 708 sx 2 5,.own 715 sy 1 1])/\H'=bZ H [(702,⟨s2,36,5,1,cs2⟩),(708,⟨sx,38,5,2,aA b0 jd⟩),(715,⟨sy,50,1,1,[.own nt st 2 1]⟩)]):=by
 refine cF 700 func74 rfl (by decide) (N:=18) rfl (by simp) (Rl:=[.cell 2 36]) rfl fun en k0=>?_
 refine awN ?_;simp only [F65,seval];have h60:=fV 60 (by decide) (by decide);have h40:=fV 40 (by decide) (by decide);simp only [ai] at h60 h40;refine awN ?_;simp only [F65,seval];refine ⟨_,h60,rfl,?_⟩;try simp only [ak,F65,seval]
 refine ⟨_,h40,rfl,?_⟩;try simp only [ak,F65,seval]
 refine awN ?_;simp only [F65,seval];refine ⟨by obtain ⟨B,hB,hs⟩:=hnt;have:=hbH nt B hB;exact ⟨B,by (repeat rw [if_neg (by omega)]);exact hB,hs⟩,?_⟩;refine awT ?_;refine awN ?_;simp only [F65,seval];refine awN ?_;simp only [F65,seval];refine eC H [2] [702,708,715] (by intro y B h;right;have h9:=hbH y B h;simp only [aB];(repeat rw [if_neg (by omega)]);exact h) ?_;simp only [F65,seval];refine awX ?_;simp only [F65,seval];exact ⟨_,_,_,_,rfl,rfl⟩
theorem Iz (H:Hp) (ny nt st:Nat) (hnt:∃B,H nt=some B/\B.st=st) (hbH:∀y B,H y=some B->y<800):cT prog 74 [.one (.own nt st 2 1)] H ny
  (fun res H' _=>∃sx sy s2 cs2,res= .val (.agg [.lit (.bool false),.lit (.string ay),.lit (.string ay),.own 808 sx 2 5,.own 815 sy 1 1])/\H'=bZ H [(802,⟨s2,36,5,1,cs2⟩),(808,⟨sx,38,5,2,aA b0 jd⟩),(815,⟨sy,50,1,1,[.own nt st 2 1]⟩)]):=by
 refine cF 800 func74 rfl (by decide) (N:=18) rfl (by simp) (Rl:=[.cell 2 36]) rfl fun en k0=>?_
 refine awN ?_;simp only [F65,seval];have h60:=fV 60 (by decide) (by decide);have h40:=fV 40 (by decide) (by decide);simp only [ai] at h60 h40;refine awN ?_;simp only [F65,seval];refine ⟨_,h60,rfl,?_⟩;try simp only [ak,F65,seval]
 refine ⟨_,h40,rfl,?_⟩;try simp only [ak,F65,seval]
 refine awN ?_;simp only [F65,seval];refine ⟨by obtain ⟨B,hB,hs⟩:=hnt;have:=hbH nt B hB;exact ⟨B,by (repeat rw [if_neg (by omega)]);exact hB,hs⟩,?_⟩;refine awT ?_;refine awN ?_;simp only [F65,seval];refine awN ?_;simp only [F65,seval];refine eC H [2] [802,808,815] (by intro y B h;right;have h9:=hbH y B h;simp only [aB];(repeat rw [if_neg (by omega)]);exact h) ?_;simp only [F65,seval];refine awX ?_;simp only [F65,seval];exact ⟨_,_,_,_,rfl,rfl⟩
def rMs (a:bR):Nat->Nat->List Int
 |0,_=>[]
 |n+1,i=>if mbA (i:Int) a=true then (i:Int)::rMs a n (i+1) else rMs a n (i+1)
theorem tV (a:bR):∀(n i:Nat) (c:Int),c∈rMs a n i↔(i:Int)<=c/\c<((i+n:Nat):Int)/\mbA c a=true
 |0,i,c=>by simp [rMs];omega
 |n+1,i,c=>by
  have h1:=tV a n (i+1) c;rw [rMs];by_cases hc:c=(i:Int)
  ·subst hc;split
   ·rename_i h;simp [h];omega
   rename_i h;rw [h1];simp [h]
  split
  ·rw [List.mem_cons,h1];constructor
   ·rintro (h|h)
    ·exact absurd h hc
    exact ⟨by omega,by omega,h.2.2⟩
   exact fun h=> .inr ⟨by omega,by omega,h.2.2⟩
  rw [h1];constructor
  ·exact fun h=>⟨by omega,by omega,h.2.2⟩
  exact fun h=>⟨by omega,by omega,h.2.2⟩
theorem yj (a:bR):∀n i,(rMs a n i).Pairwise (·<·)
 |0,_=> .nil
 |n+1,i=>by
  have h1:=yj a n (i+1);rw [rMs];split
  ·refine List.pairwise_cons.2 ⟨fun x hx=>?_,h1⟩;have:=(tV a n (i+1) x).1 hx;omega
  exact h1
theorem qv {d:Array Int} (hs:∀i j (hi:i<d.size) (hj:j<d.size),i<=j->d[i]<=d[j]):∀m,m<=d.size->(Lib.compactUpTo d m).Pairwise (·<=·)
 |0,_=>by simp [Lib.compactUpTo]
 |m+1,hm=>by
  have h1:=qv hs m (by omega);have hlt:m<d.size:=by omega
  rw [Lib.compactUpTo_succ];split
  ·rw [List.pairwise_append];refine ⟨h1,by simp,fun x hx y hy=>?_⟩;obtain ⟨j,hj,hjm,rfl⟩:=(mT m (by omega) hs).2 x hx;simp only [List.mem_singleton] at hy;subst hy;rw [getElem!_pos d m hlt];exact hs j m hj hlt (by omega)
  rw [List.append_nil];exact h1
theorem z7 (a:bR) (c:Int) (hc:c≠ -1):mbA c a=true↔c∈mem a:=by
 rw [pB,tH c hc,za];simp
theorem ym {a:bR} {n:Nat} (h:∀t∈a,∀x∈t,inR n x.claim):mem a=rMs a n 0:=by
 have hin:∀i∈mem a,0<=i/\i<(n:Int):=fun i hi=>by
  obtain ⟨p,h1,h2,h3⟩:=iS (ka hi);obtain ⟨t,ht,hp⟩:=List.mem_flatten.1 h1;rcases h t ht p hp with h4|h4
  ·exact absurd h4 h3
  rw [←h2];exact h4
 refine List.Perm.eq_of_pairwise (le:=fun x y=>x<=y) (fun x y _ _ h1 h2=>Int.le_antisymm h1 h2) (qv (nL _) _ (by simp)) ((yj a n 0).imp fun h=>Int.le_of_lt h) ?_;refine (List.perm_ext_iff_of_nodup (kf a) ((yj a n 0).imp fun h=>by omega)).2 fun c=>?_
 rw [tV];constructor
 ·intro hc;have h1:=hin c hc;exact ⟨by omega,by omega,(z7 a c (by omega)).2 hc⟩
 intro hc;exact (z7 a c (by omega)).1 hc.2.2
def xP (i:Int):GPart:=⟨i,false,gZ⟩
def xC (i:Int) (c:Rat):GPart:=⟨i,true,enc c⟩
theorem IP:(jd.map fun c=>qOf c.amount)=[60,40]:=by simp [jd,ci]
theorem DT:aC jd=[[],[],[(0,60),(1,40)],[],[],[],[],[]]:=by
 simp [aC,List.range,List.range.loop,wRk,jd,ci]
theorem qF (ags:List bR):az (exE ags)=⟨2,[[],[],[(0,60),(1,40)],[],[],[],[],[]],ags.map (aV jd),100⟩:=by
 have h1:cn jd=100:=by
  have:cn jd=60+(40+0):=by simp [cn,jd,ci]
  rw [this];grind
 unfold az exE;rw [DT,h1];rfl
theorem t6 (a:bR) (h:∀t∈a,∀x∈t,inR 2 x.claim):aV jd a=(rMs a 2 0,(bb a [60,40]).2++[dG (rMs a 2 0) (bb a [60,40]).1]):=by
 unfold aV;rw [IP,ym h]
def xB:bR:=[[xP 1],[xP 0]]
noncomputable def xCC:bR:=[[xC 1 15],[xP 0]]
noncomputable def xD:bR:=[[xC (-1) 12],[xP 0,xP 1]]
theorem Fa:aV jd xB=([0,1],[[(1,40)],[(0,60)],[(0,0),(1,0)]]):=by
 rw [t6 xB (by simp [xB,xP,inR])];simp [rMs,mbA,mbT,xB,xP,bb,b8,cp,dG,Rat.sub_self]
theorem Af:aV jd xCC=([0,1],[[(1,15)],[(0,60)],[(0,0),(1,25)]]):=by
 have h1:bC 40 15=15:=by kernel_rfl
 have h2:(40:Rat)-15=25:=by kernel_rfl
 rw [t6 xCC (by simp [xCC,xC,xP,inR])];simp [rMs,mbA,mbT,xCC,xC,xP,bb,b8,cp,dG,ci,h1,h2,Rat.sub_self]
theorem Fb:aV jd xD=([0,1],[[(-1,12)],[(0,60),(1,40)],[(0,0),(1,0)]]):=by
 rw [t6 xD (by simp [xD,xC,xP,inR])];simp [rMs,mbA,mbT,xD,xC,xP,bb,b8,cp,dG,ci,Rat.sub_self]
theorem Fc:(eQ (az (exE [])) ((50:Int):Rat)).cl=[((30:Int):Rat),((20:Int):Rat)]:=by
 rw [qF];kernel_rfl
theorem Fd:(eQ (az (exE [xB])) ((50:Int):Rat)).cl=[((10:Int):Rat),((40:Int):Rat)]:=by
 rw [qF,List.map_cons,Fa];kernel_rfl
theorem Fe:(eQ (az (exE [xCC])) ((50:Int):Rat)).cl=[((35:Int):Rat),((15:Int):Rat)]:=by
 rw [qF,List.map_cons,Af];kernel_rfl
theorem DU:(eQ (az (exE [xCC])) ((95:Int):Rat)).cl=[((60:Int):Rat),((35:Int):Rat)]:=by
 rw [qF,List.map_cons,Af];kernel_rfl
theorem Ff:(eQ (az (exE [xD])) ((50:Int):Rat)).cl=[mkRat 114 5,mkRat 76 5]:=by
 rw [qF,List.map_cons,Fb];kernel_rfl
theorem t7 {q:Rat} (h:0<=q):¬cU q<0:=by
 unfold cU;rw [fh];grind
def xOK (a:bR):Prop:=a.length<=2/\(∀t∈a,t.length<=2)/\∀t∈a,∀p∈t,(p.claim= -1/\p.capped=true∨0<=p.claim/\p.claim<2)/\sB 1 p.cap/\0<=qOf p.cap
theorem wJ (i:Int) (h:0<=i/\i<2):((xP i).claim= -1/\(xP i).capped=true∨0<=(xP i).claim/\(xP i).claim<2)/\sB 1 (xP i).cap/\0<=qOf (xP i).cap:=⟨.inr h,C6,by show 0<=qOf gZ;rw [mZ];grind⟩
theorem Fw (i:Int) (c:Nat) (h:i= -1∨0<=i/\i<2) (hc:c<256):((xC i ((c:Int):Rat)).claim= -1/\(xC i ((c:Int):Rat)).capped=true∨0<=(xC i ((c:Int):Rat)).claim/\(xC i ((c:Int):Rat)).claim<2)/\sB 1 (xC i ((c:Int):Rat)).cap/\0<=qOf (xC i ((c:Int):Rat)).cap:=
 ⟨h.imp (fun h=>⟨h,rfl⟩) id,dT (fS c hc),by show 0<=qOf (enc _);rw [ci];exact_mod_cast Nat.zero_le c⟩
theorem Fx:xOK xB:=⟨by simp [xB],by simp [xB],by
 intro t ht p hp;simp only [xB,List.mem_cons,List.not_mem_nil,or_false] at ht;rcases ht with rfl|rfl<;>simp only [List.mem_cons,List.not_mem_nil,or_false] at hp<;>subst hp
 ·exact wJ 1 (by decide)
 exact wJ 0 (by decide)⟩
theorem t8:xOK xCC:=⟨by simp [xCC],by simp [xCC],by
 intro t ht p hp;simp only [xCC,List.mem_cons,List.not_mem_nil,or_false] at ht;rcases ht with rfl|rfl<;>simp only [List.mem_cons,List.not_mem_nil,or_false] at hp<;>subst hp
 ·exact Fw 1 15 (by decide) (by decide)
 exact wJ 0 (by decide)⟩
theorem Fy:xOK xD:=⟨by simp [xD],by simp [xD],by
 intro t ht p hp;simp only [xD,List.mem_cons,List.not_mem_nil,or_false] at ht;rcases ht with rfl|rfl<;>simp only [List.mem_cons,List.not_mem_nil,or_false] at hp
 ·subst hp;exact Fw (-1) 12 (by decide) (by decide)
 rcases hp with rfl|rfl
 ·exact wJ 0 (by decide)
 exact wJ 1 (by decide)⟩
theorem Ag:∀l:List GPart,(∀p∈l,(p.claim= -1/\p.capped=true∨0<=p.claim/\p.claim<2)/\0<=qOf p.cap)->dv [false,false] l=0
 |[],_=>rfl
 |p::l,h=>by
  obtain ⟨h1,h2⟩:=h p (by simp);have h3:=t7 h2;have h4:¬(p.claim≠ -1/\(p.claim<0∨(([false,false]:List Bool).length:Int)<=p.claim)):=by simp only [List.length_cons,List.length_nil];omega
  have h5:¬(p.claim= -1/\p.capped=false):=by
   rintro ⟨h6,h7⟩;rcases h1 with h1|h1
   ·rw [h1.2] at h7;cases h7
   omega
  have h6:¬(p.claim≠ -1/\([false,false]:List Bool).getD p.claim.toNat false=true):=by
   rintro ⟨h7,h8⟩;rcases h1 with h1|h1
   ·exact h7 h1.1
   have h9:p.claim.toNat=0∨p.claim.toNat=1:=by omega
   rcases h9 with h9|h9<;>rw [h9] at h8<;>cases h8
  rw [dv,if_neg h4,if_neg h5,if_neg (fun h=>h3 h.2),if_neg h6];exact Ag l fun x hx=>h x (by simp [hx])
theorem IQ:bq jd=0:=by
 have h1:¬cU 60<0:=t7 (by grind);have h2:¬cU 40<0:=t7 (by grind);simp [bq,jd,ci,h1,h2]
theorem wK (ags:List bR) (h:ags.length<=1) (hx:∀a∈ags,xOK a):bv (exE ags)=0:=by
 have h0:¬cU (qOf gZ)<0:=by rw [mZ];exact t7 (by grind)
 have h1:¬(24<(exE ags).claims.length∨12<(exE ags).agrs.length):=by
  show ¬(24<2∨12<ags.length);omega
 have h2:¬bq (exE ags).claims≠0:=fun h=>h IQ
 unfold bv;rw [if_neg h1,if_neg (show ¬cU (qOf (exE ags).cash)<0 from h0),if_neg h2];show f4 [false,false] ags=0;match ags,h,hx with
 |[],_,_=>rfl
 |[a],_,hx=>
  obtain ⟨g1,g2,g3⟩:=hx a (by simp);have hc:eP a [false,false]=0:=by
   unfold eP;have h3:¬(24<a.length∨a.any eb=true):=by
    rintro (h|h)
    ·omega
    obtain ⟨t,ht,hl⟩:=List.any_eq_true.1 h;have:=g2 t ht;unfold eb at hl;simp only [decide_eq_true_eq] at hl;omega
   rw [if_neg h3];exact Ag _ fun p hp=>by
    obtain ⟨t,ht,hp⟩:=List.mem_flatten.1 hp;have:=g3 t ht p hp;exact ⟨this.1,this.2.2⟩
  simp only [f4,hc,ne_eq,not_true_eq_false,if_false]
theorem nq {r:GRat} (h:sB 1 r):jh r:=⟨Nat.le_trans h.1 (by decide),Nat.le_trans h.2 (by decide)⟩
theorem wL (ags:List bR) (h:ags.length<=1) (hx:∀a∈ags,xOK a):eIn (exE ags) 1 2 24 12:=by
 have hc:∀c∈(exE ags).claims,sB 1 c.amount:=fun c hc=>by
  simp only [exE,jd,List.mem_cons,List.not_mem_nil,or_false] at hc;rcases hc with rfl|rfl
  ·exact dT (fS 60 (by decide))
  exact dT (fS 40 (by decide))
 have h2:(exE ags).claims.length=2:=rfl;have hl:(exE ags).agrs.length<=1:=h;refine ⟨⟨nq C6,fun c h=>nq (hc c h),by omega,fun a ha=>⟨fun t ht=>by have:=(hx a ha).2.1 t ht;omega,fun p hp=>?_⟩⟩,⟨C6,hc,fun a ha t ht p hp=>((hx a ha).2.2 t ht p hp).2.1⟩,by decide,by decide,by omega,by decide,by omega,by decide,by decide,by decide⟩;obtain ⟨t,ht,hp⟩:=List.mem_flatten.1 hp;exact nq ((hx a ha).2.2 t ht p hp).2.1
theorem jO (m:Nat):cx (enc ((m:Int):Rat))=((m:Int):Rat):=by
 have h:(0:Rat)<=((m:Int):Rat):=by exact_mod_cast Nat.zero_le m
 unfold cx nW;rw [ci];split<;>grind
theorem DV (a b:Nat) (ha:a<=9223372036854775807) (hb:b<=9223372036854775807) (hd:0<b):aR prog 40 [.one (.lit (.int .i64 a)),.one (.lit (.int .i64 b))] (.val (.agg (ai (enc (mkRat (a:Int) b))))):=
 bj (ch func40 (by decide) (by kernel_rfl)) [.int .i64 a,.int .i64 b] (aF (enc (mkRat (a:Int) b))) fun w=>C8 a b w ha hb hd
def F66:=And.intro zS (And.intro tf2 (And.intro tf0 (And.intro nX (And.intro Ev (tf5)))))
theorem F67:type_of%F66:=F66
theorem nr:aR prog 27 [] (one (.bool true)):=by
 refine aP func27 rfl (by decide) (N:=65) rfl (by simp) (R:=[.tmp 0]) rfl fun en k0=>?_
 refine awN ?_;simp only [F67,seval];refine awN ?_;simp only [F67,seval];refine awN ?_;simp only [F67,seval];refine gT (t:=2) (by rfl) (by rfl) (by decide) (by rfl) ?_;simp only [F67,seval];refine awN ?_;simp only [F67,seval];refine ⟨_,(fV 15 (by decide) (by decide)),rfl,?_⟩;try simp only [ak,F67,seval,ai]
 refine gT (t:=3) (by rfl) (by rfl) (by decide) (by rfl) ?_;simp only [F67,seval];refine awN ?_;simp only [F67,seval];refine ⟨_,(fV 12 (by decide) (by decide)),rfl,?_⟩;try simp only [ak,F67,seval,ai]
 refine gT (t:=4) (by rfl) (by rfl) (by decide) (by rfl) ?_;simp only [F67,seval];refine awN ?_;simp only [F67,seval];refine ⟨_,Iy,rfl,?_⟩;try simp only [ak,F67,seval,aJ]
 refine ⟨_,(fV 30 (by decide) (by decide)),rfl,?_⟩;try simp only [ak,F67,seval,ai]
 refine ⟨_,(fV 20 (by decide) (by decide)),rfl,?_⟩;try simp only [ak,F67,seval,ai,ab ao,ab au]
 refine ⟨_,(qr (exE []) ((50:Nat):Int) (((30:Int):Rat)) (((20:Int):Rat)) (by decide) (wL [] (by simp) (by simp)) (wK [] (by simp) (by simp)) (qB.mono (fS 50 (by decide)) (by decide)) (jO 50) rfl Fc),rfl,?_⟩;try simp only [ak,F67,seval]
 refine awR [26,29] [0,0,0,0,0,0,0,0] ?_;simp only [F67,seval];refine ⟨_,DD _ _ 25 _ ⟨_,by rfl,rfl⟩ (fun y B h=>?_),?_⟩
 ·by_cases hy:y<700
  ·exact hy
  exfalso;simp only [aB] at h;repeat rw [if_neg (by omega)] at h
  cases h
 rintro res H' nx' ⟨sx,sy,s2,cs2,rfl,rfl⟩;simp only [F67,seval,(id SD)];refine ⟨_,(fV 10 (by decide) (by decide)),rfl,?_⟩;try simp only [ak,F67,seval,ai]
 refine ⟨_,(fV 40 (by decide) (by decide)),rfl,?_⟩;try simp only [ak,F67,seval,ai]
 refine ⟨_,fJ (qr (exE [xB]) ((50:Nat):Int) (((10:Int):Rat)) (((40:Int):Rat)) (by decide) (wL [xB] (by simp) (by simpa using Fx)) (wK [xB] (by simp) (by simpa using Fx)) (qB.mono (fS 50 (by decide)) (by decide)) (jO 50) rfl Fd) rfl (fun e σ w vs hW hd=>?_),?_⟩
 ·obtain ⟨v1,vs1,rfl,d1,hd1⟩:=bV hd;obtain ⟨v2,vs2,rfl,d2,hd2⟩:=bV hd1;obtain ⟨v3,vs3,rfl,d3,hd3⟩:=bV hd2;obtain ⟨v4,vs4,rfl,d4,hd4⟩:=bV hd3;obtain ⟨us,rfl,du⟩:=d1;exact ⟨⟨us,rfl,mz (nt:=25) (na:=10) (n1:=708) (n2:=715) (t1:=[xP 1]) (t2:=[xP 0]) hW du (by rfl) (by rfl) (by rfl) (by rfl)⟩,cE eS (by rfl) d2,cE eS (by rfl) d3,cE eS (by rfl) d4,(by cases vs4 with|nil=>exact trivial|cons v vs=>exact hd4.elim)⟩
 rintro res H' nx' ⟨rfl,rfl,rfl⟩;simp only [F67,seval,(id SD)];refine aQ [0,1,2,3,4,5,6] [10] ?_;simp only [F67,seval];refine awR [33,36,41,44] [0,0,0,0,0,0,0,0,77,77,77,77,77,77,77,0,0] ?_;simp only [F67,seval];refine ⟨_,DD _ _ 32 _ ⟨_,by rfl,rfl⟩ (fun y B h=>?_),?_⟩
 ·by_cases hy:y<700
  ·exact hy
  exfalso;simp only [aB] at h;repeat rw [if_neg (by omega)] at h
  cases h
 rintro res H' nx' ⟨sx,sy,s2,cs2,rfl,rfl⟩;simp only [F67,seval,(id SD)];refine ⟨_,(fV 35 (by decide) (by decide)),rfl,?_⟩;try simp only [ak,F67,seval,ai]
 refine ⟨_,(fV 15 (by decide) (by decide)),rfl,?_⟩;try simp only [ak,F67,seval,ai]
 refine ⟨_,fJ (qr (exE [xCC]) ((50:Nat):Int) (((35:Int):Rat)) (((15:Int):Rat)) (by decide) (wL [xCC] (by simp) (by simpa using t8)) (wK [xCC] (by simp) (by simpa using t8)) (qB.mono (fS 50 (by decide)) (by decide)) (jO 50) rfl Fe) rfl (fun e σ w vs hW hd=>?_),?_⟩
 ·obtain ⟨v1,vs1,rfl,d1,hd1⟩:=bV hd;obtain ⟨v2,vs2,rfl,d2,hd2⟩:=bV hd1;obtain ⟨v3,vs3,rfl,d3,hd3⟩:=bV hd2;obtain ⟨v4,vs4,rfl,d4,hd4⟩:=bV hd3;obtain ⟨us,rfl,du⟩:=d1;exact ⟨⟨us,rfl,mz (nt:=32) (na:=10) (n1:=708) (n2:=715) (t1:=[xC 1 15]) (t2:=[xP 0]) hW du (by rfl) (by rfl) (by rfl) (by rfl)⟩,cE eS (by rfl) d2,cE eS (by rfl) d3,cE eS (by rfl) d4,(by cases vs4 with|nil=>exact trivial|cons v vs=>exact hd4.elim)⟩
 rintro res H' nx' ⟨rfl,rfl,rfl⟩;simp only [F67,seval,(id SD)];refine ⟨_,Iz _ _ 40 _ ⟨_,by rfl,rfl⟩ (fun y B h=>?_),?_⟩
 ·by_cases hy:y<800
  ·exact hy
  exfalso;simp only [aB] at h;repeat rw [if_neg (by omega)] at h
  cases h
 rintro res H' nx' ⟨sx,sy,s2,cs2,rfl,rfl⟩;simp only [F67,seval,(id SD)];refine ⟨_,(fV 60 (by decide) (by decide)),rfl,?_⟩;try simp only [ak,F67,seval,ai]
 refine ⟨_,(fV 35 (by decide) (by decide)),rfl,?_⟩;try simp only [ak,F67,seval,ai]
 refine ⟨_,fJ (qr (exE [xCC]) ((95:Nat):Int) (((60:Int):Rat)) (((35:Int):Rat)) (by decide) (wL [xCC] (by simp) (by simpa using t8)) (wK [xCC] (by simp) (by simpa using t8)) (qB.mono (fS 95 (by decide)) (by decide)) (jO 95) rfl DU) rfl (fun e σ w vs hW hd=>?_),?_⟩
 ·obtain ⟨v1,vs1,rfl,d1,hd1⟩:=bV hd;obtain ⟨v2,vs2,rfl,d2,hd2⟩:=bV hd1;obtain ⟨v3,vs3,rfl,d3,hd3⟩:=bV hd2;obtain ⟨v4,vs4,rfl,d4,hd4⟩:=bV hd3;obtain ⟨us,rfl,du⟩:=d1;exact ⟨⟨us,rfl,mz (nt:=40) (na:=10) (n1:=808) (n2:=815) (t1:=[xC 1 15]) (t2:=[xP 0]) hW du (by rfl) (by rfl) (by rfl) (by rfl)⟩,cE eS (by rfl) d2,cE eS (by rfl) d3,cE eS (by rfl) d4,(by cases vs4 with|nil=>exact trivial|cons v vs=>exact hd4.elim)⟩
 rintro res H' nx' ⟨rfl,rfl,rfl⟩;simp only [F67,seval,(id SD)];refine aQ [0,1,2,3,4,5,6,7] [10] ?_;simp only [F67,seval];refine awR [51,54] [0,0,0,0,0,0,0,0,0,0] ?_;simp only [F67,seval];refine ⟨_,DD _ _ 50 _ ⟨_,by rfl,rfl⟩ (fun y B h=>?_),?_⟩
 ·by_cases hy:y<700
  ·exact hy
  exfalso;simp only [aB] at h;repeat rw [if_neg (by omega)] at h
  cases h
 rintro res H' nx' ⟨sx,sy,s2,cs2,rfl,rfl⟩;simp only [F67,seval,(id SD)];refine ⟨_,(DV 114 5 (by decide) (by decide) (by decide)),rfl,?_⟩;try simp only [ak,F67,seval,ai]
 refine ⟨_,(DV 76 5 (by decide) (by decide) (by decide)),rfl,?_⟩;try simp only [ak,F67,seval,ai]
 refine ⟨_,fJ (qr (exE [xD]) ((50:Nat):Int) (mkRat 114 5) (mkRat 76 5) (by decide) (wL [xD] (by simp) (by simpa using Fy)) (wK [xD] (by simp) (by simpa using Fy)) (qB.mono (fS 50 (by decide)) (by decide)) (jO 50) rfl Ff) rfl (fun e σ w vs hW hd=>?_),?_⟩
 ·obtain ⟨v1,vs1,rfl,d1,hd1⟩:=bV hd;obtain ⟨v2,vs2,rfl,d2,hd2⟩:=bV hd1;obtain ⟨v3,vs3,rfl,d3,hd3⟩:=bV hd2;obtain ⟨v4,vs4,rfl,d4,hd4⟩:=bV hd3;obtain ⟨us,rfl,du⟩:=d1;exact ⟨⟨us,rfl,mz (nt:=50) (na:=49) (n1:=708) (n2:=715) (t1:=[xC (-1) 12]) (t2:=[xP 0,xP 1]) hW du (by rfl) (by rfl) (by rfl) (by rfl)⟩,cE eS (by rfl) d2,cE eS (by rfl) d3,cE eS (by rfl) d4,(by cases vs4 with|nil=>exact trivial|cons v vs=>exact hd4.elim)⟩
 rintro res H' nx' ⟨rfl,rfl,rfl⟩;simp only [F67,seval,(id SD)];refine aQ [0,5,6,7,8] [] ?_;simp only [F67,seval];refine awR [] [0,0,115,0,0,121,0,0,127,0,0] ?_;simp only [F67,seval];refine awX ?_;(first|(simp only [F67,seval];done)|(simp only [F67,seval];first|(simp [];done)))
def okN (e:GEst):Prop:=sB 1 e.cash/\(∀c∈e.claims,sB 1 c.amount/\enc (qOf c.amount)=c.amount)/\∀a∈e.agrs,∀t∈a,∀p∈t,sB 1 p.cap
theorem Pi:okN o4:=⟨C6,by simp [o4],by simp [o4]⟩
theorem PM (e:GEst) (p:N3) (h:e.claims.length<=6):∀t∈bgN e p,∀q∈t,sB 1 q.cap:=by
 have h1:tOK (fun q=>sB 1 q.cap) (bgT p (bgL e.agrs p e.claims 0 ⟨[],[],[]⟩)):=by
  have h2:=LD (Q:=fun q=>sB 1 q.cap) e.agrs p e.claims.length (fun i hi hf=>by
   show sB 1 (bgP p i).cap;unfold bgP;split
   ·exact dT (fS _ (by omega))
   exact C6) e.claims 0 ⟨[],[],[]⟩ (by omega) ⟨by simp,by simp,by simp⟩
  unfold bgT;split
  ·exact LC _ _ _ h2 (dT (fS _ (by omega)))
  exact h2
 intro t ht q hq;simp only [bgN,List.mem_cons,List.not_mem_nil,or_false] at ht;rcases ht with rfl|rfl|rfl
 ·exact h1.1 q hq
 ·exact h1.2.1 q hq
 exact h1.2.2 q hq
theorem Pj (n:Nat) (cash:List Nat) (list:List N4) (pools:List N3):∀e∈JC n cash list pools,okB e/\okN e:=by
 have hz:okB o4/\okN o4:=⟨ND,Pi⟩;refine yl (Pr:=fun e=>okB e/\okN e) _ (fun es p h=>?_) _ _ fun e he=>?_
 ·unfold Oi;split
  ·rename_i hlt;obtain ⟨h0,q0⟩:=JE h hz (p.a%(1+n%4));have hx:=JO (1+n%4) es p fun e he=>(h e he).1
   unfold Oi at hx;rw [if_pos hlt] at hx;generalize es.getD (p.a%(1+n%4)) o4=e at *
   refine Kk h _ ⟨⟨h0.1,by simp only [List.length_append,List.length_cons,List.length_nil];omega,fun a ha=>?_⟩,q0.1,q0.2.1,fun a ha=>?_⟩
   ·rcases List.mem_append.1 ha with h1|h1
    ·exact h0.2.2 a h1
    obtain rfl:a=bgN e p:=by simpa using h1
    exact NC e p h0.1
   rcases List.mem_append.1 ha with h1|h1
   ·exact q0.2.2 a h1
   obtain rfl:a=bgN e p:=by simpa using h1
   exact PM e p h0.1
  exact h
 have hE:∀e∈list.foldl (gc (1+n%4)) ((List.range (1+n%4)).map (o5 cash)),okC e/\okN e:=by
  refine yl (Pr:=fun e=>okC e/\okN e) _ (fun es x h=>?_) _ _ fun e he=>?_
  ·have hC:=jY (1+n%4) es x fun e he=>(h e he).1
   refine fun e he=>⟨hC e he,?_⟩
   revert e
   unfold gc;split
   ·exact fun e he=>(h e he).2
   have h0:=(JE h ⟨⟨by simp [o4],rfl⟩,Pi⟩ (x.a%(1+n%4))).2;generalize es.getD (x.a%(1+n%4)) o4=e at *
   refine Kk (fun e he=>(h e he).2) _ ⟨h0.1,fun c hc=>?_,h0.2.2⟩;rcases List.mem_append.1 hc with h1|h1
   ·exact h0.2.1 c h1
   obtain rfl:c=d6 (1+n%4) x:=by simpa using h1
   exact ⟨dT (OE _),by show enc (qOf (enc _))=enc _;rw [ci]⟩
  obtain ⟨i,_,rfl⟩:=List.mem_map.1 he;refine ⟨⟨by simp [o5],rfl⟩,?_,by simp [o5],by simp [o5]⟩;unfold o5;simp only;split
  ·exact dT (OE _)
  exact C6
 obtain ⟨⟨h1,h2⟩,h3⟩:=hE e he;exact ⟨⟨h1,by rw [h2];simp,by rw [h2];simp⟩,h3⟩
noncomputable def Ot (c:Nat) (list:List N4) (pools:List N3):GEst:=(JC 0 [c] list pools).getD 0 o4
theorem Pk (c:Nat) (list:List N4) (pools:List N3):Ot c list pools∈JC 0 [c] list pools:=by
 have h:=Mt 0 [c] list pools;unfold Ot;rw [List.getD_eq_getElem?_getD,List.getElem?_eq_getElem (by omega)];exact List.getElem_mem _
theorem OD (c:Nat) (list:List N4) (pools:List N3):JC 0 [c] list pools=[Ot c list pools]:=by
 have h:=Mt 0 [c] list pools;unfold Ot;match hg:JC 0 [c] list pools,h with
 |[e],_=>rfl
theorem Ou (c:Nat) (list:List N4) (pools:List N3):okB (Ot c list pools)/\okN (Ot c list pools):=Pj _ _ _ _ _ (Pk c list pools)
theorem OY (c:Nat) (list:List N4) (pools:List N3):bv (Ot c list pools)=0:=by
 have h1:=PL 0 [c] list pools;rw [OD] at h1;have h2:=h1 0 (by simp);obtain ⟨h3,_⟩:=Ou c list pools;rw [vB];exact OJ (by decide) h2 (by have:=h3.1;omega) (by have:=h3.2.1;omega)
theorem OA {r:GRat} (h:sB 1 r):jh r:=⟨Nat.le_trans h.1 (by decide),Nat.le_trans h.2 (by decide)⟩
theorem Py (c:Nat) (list:List N4) (pools:List N3) {M:Nat} (h0:0<M) (hM:M<=704000):eIn (Ot c list pools) 1 M 6 2:=by
 obtain ⟨b1,b2,b3⟩:=(Ou c list pools).1;obtain ⟨q1,q2,q3⟩:=(Ou c list pools).2;refine ⟨⟨OA q1,fun c hc=>OA (q2 c hc).1,by omega,fun a ha=>⟨fun t ht=>by have:=(b3 a ha).2 t ht;omega,fun p hp=>?_⟩⟩,⟨q1,fun c hc=>(q2 c hc).1,q3⟩,by decide,h0,b1,by decide,b2,by decide,by omega,?_,?_,?_⟩
 ·obtain ⟨t,ht,hp⟩:=List.mem_flatten.1 hp;exact OA (q3 a ha t ht p hp)
 ·unfold kG kZ kS;omega
 ·unfold kY kT kK kG kZ kS;omega
 unfold kY kT kK kG kZ kS;omega
theorem Pm (c:Nat) (list:List N4) (pools:List N3):eOK (Ot c list pools):=(iC (OY c list pools)).eOK


end Go.Proofs.YtokmkopihhnggaaGreatDoor
