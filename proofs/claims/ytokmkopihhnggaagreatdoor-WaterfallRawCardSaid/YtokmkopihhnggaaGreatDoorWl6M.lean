/- The waterfall: an estate laid out; walked by the abstract machine. -/
import Derived.Test.YtokmkopihhnggaaGreatDoorWl5M
import Derived.Test.YtokmkopihhnggaaGreatDoorAbVM
import Derived.Test.YtokmkopihhnggaaGreatDoorFewM
import Derived.Test.YtokmkopihhnggaaGreatDoorWp8M
set_option linter.unusedVariables false
set_option maxHeartbeats 4000000
set_option maxRecDepth 100000
set_option linter.unusedSimpArgs false
set_option linter.defProp false
namespace Go.Proofs.YtokmkopihhnggaaGreatDoor
open Go Go.RowKit Go.Proofs.Tryz
theorem ET (off:Nat) (H:Hp) (ny nm s sz n pn sp:Nat) (E:TypeId) (A B:List C) (t:WT) (c:Int) (x:Rat) (hoff:A.length=off) (hsz:sz≠0) (hnm:H nm=some ⟨s,E,sz,n,tcs A B (.own pn sp t.length 4) (enc (av t))⟩) (hp:H pn=some ⟨sp,230,4,t.length,aA cWP t⟩) (hne:nm≠pn) (F:∀k,3000<=k->k<3015->(nm=k)=False/\(k=nm)=False/\(pn=k)=False/\(k=pn)=False) (F1:nm≠3015)
  (hbH:∀y B,H y=some B->y<3000∨3015<=y) (hl:t.length<=1000000) (hc: -1<=c/\c<=1000000) (h1:qB 50000000000 (av t)) (h2:qB 50000000000 x):cT prog 127 [.one (.ptr nm s off),.one (.lit (.int .i64 c)),.agg (ai (enc x))] H ny
  (fun res H' _=>res= .tup []/\∀y B',up (up (up H pn none) 3015 (some ⟨ny+2,230,4,t.length+1,aA cWP (t++[(c,x)])⟩)) nm (some ⟨s,E,sz,n,tcs A B (.own 3015 (ny+2) (t.length+1) 4) (enc (av t+x))⟩) y=some B'->H' y=some B'):=by
 subst hoff;exact qe H ny nm s sz n pn sp E A B t c x hsz hnm hp hne F F1 hbH hl hc h1 h2
theorem EU (A B:List C) (x y:C) (s:GRat) (k:Nat) (h:A.length=k):(tcs A B x s).set k y=tcs A B y s:=by
 subst h;unfold tcs;rw [List.set_append_right _ _ (Nat.le_refl _),Nat.sub_self];rfl
theorem Bf {E:TypeId} {ps:List (WT×Nat)} {r s':Nat} {p:WT×Nat} {t':WT} {H':Hp} (hp:ps[r]? =some p) (h1:H' (1000*(r+1)+103)=some ⟨s',E,4,t'.length,aA cWP t'⟩) (h2:∀i q,i≠r->ps[i]? =some q->H' (1000*(i+1)+103)=some ⟨q.2,E,4,q.1.length,aA cWP q.1⟩) (l:List Nat):
  ∀x B,iB 103 E (ps.set r (t',s')) x=some B->fA l x=true∨H' x=some B:=by
 refine qh (fun i q hq=>?_) l;have hj:r<ps.length:=(List.getElem?_eq_some_iff.1 hp).1;by_cases hir:i=r
 ·subst hir;rw [List.getElem?_set_self hj] at hq;obtain rfl:=Option.some.inj hq;exact h1
 rw [List.getElem?_set_ne (fun e=>hir e.symm)] at hq;exact h2 i q hir hq
theorem sn (ps:List (WT×Nat)) (r:Nat) (p:WT×Nat) (h:ps[r]? =some p):bE (b6 103) ps 0=tcs (bE (b6 103) (ps.take r) 0) (bE (b6 103) (ps.drop (r+1)) (r+1)) (.own (1000*(r+1)+103) p.2 p.1.length 4) (enc (av p.1)):=gX (b6 103) ps r p h
theorem x7 (ps:List (WT×Nat)) (r:Nat) (p:WT×Nat) (t':WT) (s':Nat) (h:ps[r]? =some p):tcs (bE (b6 103) (ps.take r) 0) (bE (b6 103) (ps.drop (r+1)) (r+1)) (.own (1000*(r+1)+103) s' t'.length 4) (enc (av t'))=bE (b6 103) (ps.set r (t',s')) 0:=by
 have hj:r<ps.length:=(List.getElem?_eq_some_iff.1 h).1;have h1:=sn (ps.set r (t',s')) r (t',s') (List.getElem?_set_self hj);have e1:(ps.set r (t',s')).take r=ps.take r:=by rw [List.take_set];exact List.set_eq_of_length_le (by rw [List.length_take];omega)
 have e2:(ps.set r (t',s')).drop (r+1)=ps.drop (r+1):=by rw [List.drop_set];simp
 rw [e1,e2] at h1;exact h1.symm
theorem v8:∀(ps:List (WT×Nat)) (i:Nat),bE kA ps i=aA cWT (ps.map (·.1))
 |[],_=>rfl
 |p::ps,i=>by rw [List.map_cons,cf,←v8 ps (i+1)];rfl
theorem GV (nx:Nat):bE fT ((List.range 8).map fun j=>(([]:WT),nx+j)) 0=[.lit (.slice none 0 0),.lit (.bool false),.lit (.string ay),.lit (.string ay),.lit (.slice none 0 0),.lit (.bool false),.lit (.string ay),.lit (.string ay),.lit (.slice none 0 0),.lit (.bool false),.lit (.string ay),.lit (.string ay),.lit (.slice none 0 0),.lit (.bool false),.lit (.string ay),.lit (.string ay),.lit (.slice none 0 0),.lit (.bool false),.lit (.string ay),.lit (.string ay),.lit (.slice none 0 0),.lit (.bool false),.lit (.string ay),.lit (.string ay),.lit (.slice none 0 0),.lit (.bool false),.lit (.string ay),.lit (.string ay),.lit (.slice none 0 0),.lit (.bool false),.lit (.string ay),.lit (.string ay)]:=by
 have e:enc (av [])=⟨false,ay,ay⟩:=jx;simp only [List.range,List.range.loop,List.map_cons,List.map_nil,bE,fT,ai,e,List.cons_append,List.nil_append]
def rkI (ps:List (WT×Nat)) (cs:List GClaim) (k:Nat):Prop:=∀(r:Nat) p,ps[r]? =some p->p.1++wRk (r:Int) (cs.drop k) k=wRk (r:Int) cs 0
theorem Dq (cs:List GClaim) (nx:Nat):rkI ((List.range 8).map fun j=>(([]:WT),nx+j)) cs 0:=fun r p h=>by
 rw [List.getElem?_map] at h;obtain ⟨i,_,rfl⟩:=Option.map_eq_some_iff.1 h;rw [List.drop_zero,List.nil_append]
theorem Dr {ps:List (WT×Nat)} {cs:List GClaim} {k r s':Nat} {p:WT×Nat} (h:rkI ps cs k) (hk:k<cs.length) (hr:cs[k].rank=(r:Int)) (hp:ps[r]? =some p):rkI (ps.set r (p.1++[((k:Int),qOf cs[k].amount)],s')) cs (k+1):=fun i q hq=>by
 have hj:r<ps.length:=(List.getElem?_eq_some_iff.1 hp).1;by_cases hir:i=r
 ·subst hir;rw [List.getElem?_set_self hj] at hq;obtain rfl:=Option.some.inj hq;have h1:=h i p hp;rw [List.drop_eq_getElem_cons hk,wRk,if_pos hr] at h1;rw [←h1];simp
 rw [List.getElem?_set_ne (fun e=>hir e.symm)] at hq;have h1:=h i q hq;rw [List.drop_eq_getElem_cons hk,wRk,if_neg (by omega)] at h1;exact h1
theorem EV {ps:List (WT×Nat)} {cs:List GClaim} (h:rkI ps cs cs.length) (hl:ps.length=8):ps.map (·.1)=aC cs:=by
 refine List.ext_getElem (by rw [List.length_map,hl,dI]) fun i h1 h2=>?_
 rw [pL,List.getElem_map];have hi:i<ps.length:=by simpa using h1
 have h3:=h i ps[i] (List.getElem?_eq_getElem hi);rw [List.drop_length,wRk,List.append_nil] at h3;exact h3
theorem EW {ps:List (WT×Nat)} {cs:List GClaim} {k r:Nat} {p:WT×Nat} (h:rkI ps cs k) (hp:ps[r]? =some p):p.1.length<=cs.length/\∀x∈p.1,∃c∈cs,x.2=qOf c.amount:=by
 have h1:=h r p hp;have h2:=oc (r:Int) cs 0;rw [←h1,List.length_append] at h2;refine ⟨by omega,fun x hx=>?_⟩;have h3:x∈wRk (r:Int) cs 0:=by rw [←h1];exact List.mem_append_left _ hx
 exact (lv (r:Int) cs 0 x h3).2.2
def F46:=And.intro zS (And.intro AW (And.intro vg (And.intro CH (And.intro tv (And.intro mN (And.intro CJ (And.intro AZ (And.intro Er (And.intro vh (And.intro pq (And.intro tw (And.intro Ey (And.intro CL (And.intro Hy (And.intro tz (And.intro pr (And.intro CN (And.intro vi (And.intro CG (And.intro ic (And.intro cD (And.intro jz (And.intro CP (And.intro xG (And.intro gH (And.intro I3 (And.intro AX (And.intro xF (And.intro dN (And.intro I4 (And.intro A0 (Ew))))))))))))))))))))))))))))))))
theorem F47:type_of%F46:=F46
theorem so (e:GEst) (K Km:Nat) (hcs:e.claims.length<=1000) (hag:e.agrs.length<=1000) (hrank:∀c∈e.claims,0<=c.rank/\c.rank<=7) (ham:∀c∈e.claims,sB K c.amount) (hK0:0<K) (hKb:K<=10000000) (hA:∀a∈e.agrs,layB e.claims a K Km):aR prog 79 [.agg (aJ e)] (.val (.agg (bL (az e)))):=by
 have hkb:K<=10000000:=hKb;have han:=hag;have hcn:=hcs;refine aP func79 rfl (by decide) (N:=57) rfl (by simp) (R:=[.cell 2 141]) rfl fun en k0=>?_
 refine awN ?_;simp only [F47,seval,aJ];refine qd (M:=fun st=>∃s3 s12 nx,st=⟨mkT [(1,.val (.one (.ptr 1 0 0))),(2,.val (.one (.ptr 2 1 0))),(3,.val (.one (.ptr 3 s3 0)))],mkH [(12,⟨s12,190,4,8,[.lit (.slice none 0 0),.lit (.bool false),.lit (.string ay),.lit (.string ay),.lit (.slice none 0 0),.lit (.bool false),.lit (.string ay),.lit (.string ay),.lit (.slice none 0 0),.lit (.bool false),.lit (.string ay),.lit (.string ay),.lit (.slice none 0 0),.lit (.bool false),.lit (.string ay),.lit (.string ay),.lit (.slice none 0 0),.lit (.bool false),.lit (.string ay),.lit (.string ay),.lit (.slice none 0 0),.lit (.bool false),.lit (.string ay),.lit (.string ay),.lit (.slice none 0 0),.lit (.bool false),.lit (.string ay),.lit (.string ay),.lit (.slice none 0 0),.lit (.bool false),.lit (.string ay),.lit (.string ay)]⟩),(1,⟨0,36,5,1,aJ e⟩),(2,⟨1,141,6,1,[.lit (.int .i64 0),.lit (.slice none 0 0),.lit (.slice none 0 0),.lit (.bool false),.lit (.string ay),.lit (.string ay)]⟩),(3,⟨s3,141,6,1,.lit (.int .i64 (e.claims.length:Int)):: .own 12 s12 8 4:: .lit (.slice none 0 0)::[.lit (.bool false),.lit (.string ay),.lit (.string ay)]⟩)],nx,0⟩) ?_ ?_
 ·refine awD (scq [1,3,5] (.two 3 5 (scq [9,10,12] .nil) (scq [6,9,12] .nil))) [0,0,0,0,0,0,0] ?_;simp only [F47,seval,aJ];refine ⟨?_,?_⟩
  ·intro zc zQ hM;refine cm (aI [1,2,3] [12,1,2,3]) (hM _ ⟨?_,?_,?_,?cs2⟩);case cs2=>(simp only [F47,seval];rfl)
  intro zc zQ hM;refine cm (aI [1,2,3] [12,1,2,3]) (hM _ ⟨?_,?_,?_,?cs3⟩);case cs3=>(simp only [F47,seval];rfl)
 rintro st ⟨s3,s12,nx,rfl⟩;obtain ⟨nxA,hnxA⟩:∃n,nx=n:=⟨_,rfl⟩;rw [hnxA];refine awN ?_;simp only [F47,seval,aJ];refine aQ [1,2,3,15,16,17] [12,1,2,3] ?_;try simp only [ak,F47,seval]
 rw [←GV nxA];refine cm (Do 103 230 190 (by decide) 12 [(1,⟨0,36,5,1,aJ e⟩),(2,⟨1,141,6,1,[.lit (.int .i64 0),.lit (.slice none 0 0),.lit (.slice none 0 0),.lit (.bool false),.lit (.string ay),.lit (.string ay)]⟩),(3,⟨s3,141,6,1,.lit (.int .i64 (e.claims.length:Int)):: .own 12 s12 8 4:: .lit (.slice none 0 0)::[.lit (.bool false),.lit (.string ay),.lit (.string ay)]⟩)] (by simp) (by decide) 8 nxA ((List.range 8).map fun j=>(([]:WT),nxA+j)) (fun j p hj=>?_)) ?_
 ·rw [List.getElem?_map] at hj;obtain ⟨i,hi,rfl⟩:=Option.map_eq_some_iff.1 hj;obtain rfl:j=i:=by obtain ⟨h1,h2⟩:=List.getElem?_eq_some_iff.1 hi;simpa using h2
  exact ⟨rfl,rfl⟩
 have e0:ai (enc 0)=[.lit (.bool false),.lit (.string ay),.lit (.string ay)]:=bf;repeat' first|apply awS|apply awB
 refine aM (fun n st=>∃k ps q nx,k<=e.claims.length/\n=e.claims.length-k/\ps.length=8/\rkI ps e.claims k/\q+cn (e.claims.drop k)=cn e.claims/\qB (1+k*(K+1)) q/\st=⟨mkT [(1,.val (.one (.ptr 1 0 0))),(2,.val (.one (.ptr 2 1 0))),(3,.val (.one (.ptr 3 s3 0))),(15,.val (.one (.sh 5 e.claims.length (aA b0 e.claims)))),(16,one (.int .i64 e.claims.length)),(17,one (.int .i64 k))],bZ (iB 103 230 ps) [(12,⟨s12,190,4,8,bE (b6 103) ps 0⟩),(1,⟨0,36,5,1,aJ e⟩),(2,⟨1,141,6,1,[.lit (.int .i64 0),.lit (.slice none 0 0),.lit (.slice none 0 0),.lit (.bool false),.lit (.string ay),.lit (.string ay)]⟩),(3,⟨s3,141,6,1,.lit (.int .i64 (e.claims.length:Int)):: .own 12 s12 8 4:: .lit (.slice none 0 0)::ai (enc q)⟩)],nx,0⟩) (e.claims.length) ⟨0,((List.range 8).map fun j=>(([]:WT),nxA+j)),0,_,by omega,by omega,by simp,Dq _ _,by rw [List.drop_zero];grind,bW.mono (by omega),by rw [bf];first|done|rfl⟩ ?_;rintro n0 st ⟨k,ps,q,nx0,hk,rfl,hpl8,hrk,htt,hqB,rfl⟩;by_cases hlt0:(k:Int)<(e.claims.length:Int)
 ·refine awN ?_;simp only [F47,seval,ai,hlt0];refine awT ?_;refine awK ?_;simp only [F47,seval];have hkl:k<e.claims.length:=by omega
  have hat:=aO cK e.claims k hkl;obtain ⟨c,hck⟩:∃c,e.claims[k]=c:=⟨_,rfl⟩;have hcm:c∈e.claims:=hck▸List.getElem_mem hkl;have hca:=ham c hcm;have hcr:=hrank c hcm;rw [hck] at hat;refine awN ?_;simp only [F47,seval,hlt0,hat,b0];repeat refine ob ?_
  have hA0:=EG c.amount gZ K 1 hca ⟨by decide,by decide⟩ (by omega) (by decide) hK0 (by decide);rw [mZ,Rat.add_zero] at hA0;simp only [ai,gZ] at hA0;refine awN ?_;simp only [F47,seval];refine ⟨_,hA0,(by first|rfl|simp [aU,aD,al,ax,A1.cells,cY,ab ar,ab aw,ab bg]),?_⟩;try simp only [ak,F47,seval]
  obtain ⟨r,hr⟩:∃r:Nat,c.rank=(r:Int):=⟨c.rank.toNat,by omega⟩;have hr8:r<8:=by omega
  have hrt:c.rank.toNat=r:=by omega
  obtain ⟨p,hp⟩:∃p,ps[r]? =some p:=⟨_,List.getElem?_eq_getElem (by omega)⟩;obtain ⟨hpl,hpm⟩:=EW hrk hp;have hsp:=sn ps r p hp;have hAl:(bE (b6 103) (ps.take r) 0).length=r*4:=by rw [ks,List.length_take];congr 1;omega
  have hBl:(bE (b6 103) (ps.drop (r+1)) (r+1)).length=(7-r)*4:=by rw [ks,List.length_drop];congr 1;omega
  have hpq:∀x∈p.1,qB K x.2:=fun x hx=>by obtain ⟨d,h1,h2⟩:=hpm x hx;rw [h2];exact (ham d h1).qB hK0
  have hSm:qB 50000000000 (av p.1):=(iW p.1 hpq).mono (by have:=Nat.mul_le_mul (show p.1.length<=1000 by omega) (show K+1<=10000001 by omega);omega);rw [hsp];repeat' first|apply awS|apply awB
  refine cb [33] (by kernel_rfl) (.cons 0 true (.cons 1 true (.cons 2 true (.cons 3 true (.cons 4 true (.cons 5 true (.cons 6 true (.cons 7 false .nil)))))))) (by kernel_rfl) (gs:=[none,none,none,none,none,none,none,none]) (by kernel_rfl) (by simp only [zT,seval];rfl) (by decide) ?_;simp only [F47,seval,hrt,(id SD)];repeat refine ob ?_
  refine ⟨_,ET (r*4) _ _ 12 s12 4 8 (1000*(r+1)+103) p.2 190 _ _ p.1 (k:Int) (qOf c.amount) hAl (by decide) (by rfl) (by simp only [aB];(repeat rw [if_neg (by omega)]);exact kr (by decide) hp) (by omega) (fun j h1 h2=>by refine ⟨?_,?_,?_,?_⟩<;>(simp;try omega)) (by decide) (fun y B h=>?_) (by omega) (by omega) hSm ((hca.qB hK0).mono (by omega)),?_⟩
  ·by_cases hy:y<3000∨3015<=y
   ·exact hy
   exfalso;simp only [aB] at h;repeat rw [if_neg (by omega)] at h
   obtain ⟨i,q,rfl,_,_⟩:=gk h;omega
  rintro res H' nx' ⟨rfl,hW⟩;simp only [F47,seval,(id SD)];refine cg hW ?_;refine EQ 3015 (1000*(r+1)+103) 12 (r*4) (s:=_) (n:=p.1.length+1) (sz:=4) (B:=⟨_,230,4,p.1.length+1,aA cWP (p.1++[((k:Int),qOf c.amount)])⟩) (by rfl) (B2:=⟨s12,190,4,8,_⟩) (by rfl) (by show (tcs _ _ _ _)[r*4]? =_;rw [←hAl];exact zA _ _ _ _) (by decide) (by omega) (by show (4:Nat)≠0;decide) (by show (4:Nat)≠0;decide) rfl ?_;obtain ⟨nx9,hnx9⟩:∃n,nx'=n:=⟨_,rfl⟩;have hset:(tcs (bE (b6 103) (ps.take r) 0) (bE (b6 103) (ps.drop (r+1)) (r+1)) (.own 3015 (nx0+2+2) (p.1.length+1) 4) (enc (av p.1+qOf c.amount))).set (r*4) (.own (1000*(r+1)+103) nx9 (p.1.length+1) 4)=bE (b6 103) (ps.set r (p.1++[((k:Int),qOf c.amount)],nx9)) 0:=by
   rw [EU _ _ _ _ _ _ hAl,←x7 ps r p (p.1++[((k:Int),qOf c.amount)]) nx9 hp,dQ,List.length_append];try rfl
  refine eC (iB 103 230 (ps.set r (p.1++[((k:Int),qOf c.amount)],nx9))) [1,2,3,6,15,16,17] [12,1,2,3,6] (Bf hp (by simp only [hnx9,aB];(repeat rw [if_neg (by omega)]);rw [if_pos trivial];simp) (fun i q hi hq=>by simp only [aB];(repeat rw [if_neg (by omega)]);exact kr (by decide) hq) _) ?_;have F9:∀j,j<1000->((1000*(r+1)+103=j)=False/\(j=1000*(r+1)+103)=False):=fun j hj=>⟨by simp;omega,by simp;omega⟩
  simp only [F47,seval,hnx9,hset];have hT:=sj q (qOf c.amount) _ K hqB (hca.qB hK0) (by have:=Nat.mul_le_mul (show k<=1000 by omega) (show K+1<=10000001 by omega);omega) (by omega);simp only [ai] at hT;have hqn:qB (1+(k+1)*(K+1)) (q+qOf c.amount):=(hqB.add (hca.qB hK0)).mono (by rw [Nat.succ_mul];omega);refine awN ?_;simp only [F47,seval];refine ⟨_,hT,(by first|rfl|simp [aU,aD,al,ax,A1.cells,cY,ab ar,ab aw,ab bg]),?_⟩;try simp only [ak,F47,seval]
  refine awN ?_;simp only [F47,seval];repeat refine ob ?_
  refine ⟨_,fP (iB 103 230 (ps.set r (p.1++[((k:Int),qOf c.amount)],nx9))) [1,2,3,15,16,17] [12,1,2,3] (qh (fun i q hq=>by simp only [aB];(repeat rw [if_neg (by omega)]);exact kr (by decide) hq) _),e.claims.length-(k+1),by omega,k+1,(ps.set r (p.1++[((k:Int),qOf c.amount)],nx9)),q+qOf c.amount,?nn12,by omega,rfl,by rw [List.length_set];exact hpl8,by rw [←hck] at hr ⊢;exact Dr hrk hkl hr hp,?tt12,hqn,?st12⟩;case st12=>(simp only [F47,seval];first|rfl|(simp;done))
  case tt12=>(rw [List.drop_eq_getElem_cons hkl,cn,hck] at htt;grind)
 refine awN ?_;simp only [F47,seval,ai,hlt0];refine awF ?_;refine awQ ?_;simp only [F47,seval];obtain rfl:k=e.claims.length:=by omega
 have hrk9:=EV hrk hpl8;refine eC (iB 103 230 ps) [1,2,3,15,16,17] [12,1,2,3] (qh (fun i q hq=>by simp only [aB];(repeat rw [if_neg (by omega)]);exact kr (by decide) hq) _) ?_;simp only [F47,seval];refine cm (Dp 103 230 190 (by decide) 12 [(1,⟨0,36,5,1,aJ e⟩),(2,⟨1,141,6,1,[.lit (.int .i64 0),.lit (.slice none 0 0),.lit (.slice none 0 0),.lit (.bool false),.lit (.string ay),.lit (.string ay)]⟩),(3,⟨s3,141,6,1,.lit (.int .i64 (e.claims.length:Int)):: .own 12 s12 8 4:: .lit (.slice none 0 0)::ai (enc q)⟩)] (by simp) (by decide) 8 _ ps) ?_;rw [v8,hrk9];simp only [F47,seval];refine dp 12 3 1 (by rfl) (by rfl) (by rfl) (by decide) (by show (4:Nat)≠0;decide) (by show (6:Nat)≠0;decide) rfl ?_;simp only [F47,seval];refine awN ?_;simp only [F47,seval,ai,aJ];refine lX 3 2 53 _ 193 2 (by decide) (by rfl) (by decide) (by simp) (by rfl) ?_;refine aQ [1,2,3,41,42,43] [1,2,3,53] ?_;try simp only [ak,F47,seval]
 repeat' first|apply awS|apply awB
 refine aM (fun n st=>∃i1 out sp nx,i1<=e.agrs.length/\n=e.agrs.length-i1/\out++List.map (aV e.claims) (e.agrs.drop i1)=[]++List.map (aV e.claims) e.agrs/\out.length=i1/\st=⟨mkT [(1,.val (.one (.ptr 1 0 0))),(2,.val (.one (.ptr 2 1 0))),(3,.val (.one (.ptr 3 s3 0))),(41,.val (.one (.sh 1 e.agrs.length (aA bu e.agrs)))),(42,one (.int .i64 e.agrs.length)),(43,one (.int .i64 i1))],mkH [(1,⟨0,36,5,1,aJ e⟩),(2,⟨1,141,6,1,[.lit (.int .i64 0),.lit (.slice none 0 0),.lit (.slice none 0 0),.lit (.bool false),.lit (.string ay),.lit (.string ay)]⟩),(3,⟨s3,141,6,1,.lit (.int .i64 (e.claims.length:Int)):: .sh 4 8 (aA cWT (aC e.claims)):: .own 53 sp out.length 2::ai (enc q)⟩),(53,⟨sp,193,2,out.length,aA cY out⟩)],nx,0⟩) (e.agrs.length) ⟨0,[],_,_,by omega,by omega,by rfl,(by first|omega|assumption|rfl|simp|(simp;omega)),rfl⟩ ?_;rintro n1 st ⟨i1,out,sp,nx1,hk1,rfl,hL1,hV1_1,rfl⟩;by_cases hlt1:i1<e.agrs.length
 ·have hI1:(i1:Int)<(e.agrs.length:Int):=by omega
  have hat1:=aO gI e.agrs i1 hlt1;try rw [Nat.mul_one] at hat1
  rw [List.drop_eq_getElem_cons hlt1] at hL1;have hla:=hA _ (List.getElem_mem hlt1);generalize e.agrs[i1]=a at *
  simp only [List.map_cons] at hL1;refine awN ?_;simp only [F47,seval,ai,hI1];refine awT ?_;refine awK ?_;simp only [F47,seval];refine awN ?_;simp only [F47,seval,hI1,hat1,bu];repeat refine ob ?_
  have hLy:=Iu e a K Km hla;refine awD (scT 0 4 (scq [8,10,12,15,16] .nil)) [0,0,0,0,0,0,0,0,0] ?_;simp only [F47,seval,aJ,ab ao,ab au,ab bF];refine ⟨_,hLy,(by first|rfl|simp [al,ax,cY,ab aw,ab bg]),?_⟩;try simp only [ak,F47,seval,cY]
  repeat refine ob ?_
  refine awN ?_;simp only [F47,seval];repeat refine ob ?_
  refine ⟨_,aI [1,2,3,41,42,43] [1,2,3,53],e.agrs.length-(i1+1),by omega,i1+1,(out++[aV e.claims a]),?a18_sp,?a18_nx,by omega,rfl,?i18_0,?i18_1,?st18⟩;case st18=>(simp only [F47,seval,a7,cY,List.length_append];first|rfl|(simp [aJ,a7,cY,List.length_append,List.length_cons,List.length_nil,hlt0,hI1,hat1,Nat.add_mul];done))
  case i18_0=>(simpa using hL1)
  all_goals (first|omega|assumption|(simp;omega)|(simp_all;done))
 obtain rfl:i1=e.agrs.length:=by omega
 have hI1:¬(e.agrs.length:Int)<(e.agrs.length:Int):=by omega
 rw [List.drop_length] at hL1;simp only [List.map_nil,List.append_nil] at hL1;subst hL1;refine awN ?_;simp only [F47,seval,ai,hI1];refine awF ?_;refine awQ ?_;simp only [F47,seval];refine dp 53 3 2 (by rfl) (by rfl) (by rfl) (by decide) (by show (2:Nat)≠0;decide) (by show (6:Nat)≠0;decide) rfl ?_;simp only [F47,seval];refine awN ?_;simp only [F47,seval];refine awX ?_;simp only [F47,seval,ab ar,ab aw];have hq9:q=cn e.claims:=by rw [List.drop_length] at htt;simp only [cn] at htt;grind
 simp [bL,az,hq9,dI,ai]
theorem m6 {κ:Kx} {vs:List Value} (x:C) (h:denVs κ vs [x,.lit (.bool false),.lit (.string ay),.lit (.string ay)]):denVs κ vs (x::ai (enc 0)):=by
 rw [bf];exact h
theorem fm (n:Nat):(⟨List.replicate n 0,0⟩:WR).B 1:=⟨fun x hx=>by rw [List.eq_of_mem_replicate hx];exact bW,bW⟩
def F48:=And.intro zS (And.intro ll (dN))
theorem F49:type_of%F48:=F48
theorem wb (l:List Rat) (n9:Nat) (hn9:l.length=n9) (hl:l.length<=1000000) (H:Hp) (ny:Nat) (hbH:∀y B,H y=some B->y<41):cT prog 165 [.one (.sh 3 n9 (aA cQ l))] H ny
  (fun res H' _=>∃s,res= .val (.one (.own 48 s n9 3))/\H'=bZ H [(48,⟨s,32,3,n9,aA cQ l⟩)]):=by
 subst hn9;refine cF 41 func165 rfl (by decide) (N:=8) rfl (by simp) (Rl:=[.tmp 2]) rfl fun en k0=>?_
 refine awN ?_;simp only [F49,seval];repeat' first|apply awS|apply awB
 refine vW [] (gs:=[none,none]) (by rfl) (by kernel_rfl) (by decide) ?_;simp only [F49,seval,(id SF)];repeat refine ob ?_
 intro b hb;cases b
 ·repeat' first|apply awS|apply awB
  refine awF ?_;refine awK ?_;simp only [F49,seval];repeat' first|apply awS|apply awB
  refine vU [] (gs:=[none,none,none,none]) (by rfl) (by kernel_rfl) (by decide) ?_;simp only [F49,seval,(id SD)];repeat refine ob ?_
  refine eC H [2] [48] (by intro y B h;right;have h9:=hbH y B h;simp only [aB];(repeat rw [if_neg (by omega)]);exact h) ?_;simp only [F49,seval];refine awX ?_;simp only [F49,seval];try simp
 have h0:=hb rfl;obtain rfl:=List.eq_nil_of_length_eq_zero h0;refine awT ?_;refine awN ?_;simp only [F49,seval];refine gS 2 48 32 3 (by decide) (by rfl) ?_;refine eC H [2] [48] (by intro y B h;right;have h9:=hbH y B h;simp only [aB];(repeat rw [if_neg (by omega)]);exact h) ?_;simp only [F49,seval];refine awX ?_;simp only [F49,seval];simp [ve]
def F50:=And.intro zS (And.intro ll (And.intro Hz (And.intro Ey (And.intro AY (And.intro nX (And.intro cD (And.intro jz (And.intro xG (And.intro Gm (And.intro dN (Gn)))))))))))
theorem F51:type_of%F50:=F50
theorem mr (L:WL) (m:Rat) (K Sm M Z:Nat) (hn:L.count<=1000000) (hl:wOK K Sm L.ranks) (hin:∀t∈L.ranks,wIn L.count t) (hM:qB M m) (hZ:K+(M+L.ranks.length*(Sm+1))+Sm<=Z) (hB:1+wN L.ranks*(Z+1)<=50000000000) (hZb:Z<=40000000000):aR prog 129 [.agg (bL L),.agg (ai (enc m))] (.val (.one (.sh 3 L.count (aA cQ (aW L m))))):=by
 refine aP func129 rfl (by decide) (N:=20) rfl (by simp) (R:=[.tmp 4]) rfl fun en k0=>?_
 refine awN ?_;simp only [F51,seval,ai,bL];refine C5 40 ?_;dsimp only;refine awN ?_;simp only [F51,seval,ja];repeat refine ob ?_
 refine cm (dz 50 (.own 48 2 L.count 3::ai (enc 0)) (by rfl) (by show (4:Nat)≠0;decide) (by rfl) (fun κ vs h=>m6 _ h)) ?_;simp only [F51,seval];refine awR [15] [0,0,0,0,0] ?_;simp only [F51,seval,ai];refine ⟨_,Fq _ _ 3 2 L.count ⟨List.replicate L.count 0,0⟩ L.ranks m K Sm M 1 Z (by rfl) (by rfl) (by simp) (fun y B h=>?_) hn hl hin hM (fm _) hZ hB hZb,?_⟩
 ·simp only [aB] at h;repeat (split at h;· omega)
  cases h
 rintro res H' nx' ⟨rfl,hW⟩;simp only [F51,seval];refine cg hW ?_;simp only [F51,seval];refine dp 48 50 0 (by rfl) (by rfl) (by rfl) (by decide) (by show (3:Nat)≠0;decide) (by show (4:Nat)≠0;decide) rfl ?_;simp only [F51,seval];refine awN ?_;simp only [F51,seval,ai];refine awX ?_;(first|(simp only [F51,seval,ab ap,aW];done)|(simp only [F51,seval,ai];first|(simp [ab ap,aW];done)))
def F52:=And.intro zS (And.intro pt (And.intro Eq (And.intro Ez (And.intro ll (And.intro tf7 (And.intro CJ (And.intro CL (And.intro Gk (And.intro AY (And.intro nX (And.intro Gl (And.intro CN (And.intro cD (And.intro jz (And.intro CI (And.intro gH (And.intro Gm (And.intro dN (And.intro A0 (Gn))))))))))))))))))))
theorem F53:type_of%F52:=F52
theorem Ds (L:WL) (g:List Rat) (H:Hp) (ny:Nat) (hgl:g.length=L.count) (hn:L.count<=1000000) (hpn0:L.pools.length<=1000) (hmem:∀p∈L.pools,p.1.length<=1000/\∀i∈p.1,0<=i/\i<(L.count:Int)) (hbH:∀y B,H y=some B->y<37):cT prog 130 [.agg (bL L),.one (.sh 3 L.count (aA cQ g))] H ny
  (fun res H' _=>∃s sc,res= .val (.one (.ptr 50 s 0))/\H'=bZ H [(50,⟨s,200,4,1,.own 48 sc L.count 3::ai (enc 0)⟩),(48,⟨sc,32,3,L.count,aA cQ (cG L.pools g)⟩)]):=by
 refine cF 37 func130 rfl (by decide) (N:=38) rfl (by simp) (Rl:=[.tmp 4]) rfl fun en k0=>?_
 refine awN ?_;simp only [F53,seval,ai,bL];refine awR [11] [0,0,0,0,0] ?_;simp only [F53,seval];refine ⟨_,wb g L.count hgl (by omega) _ _ (fun y B h=>?_),?_⟩
 ·simp only [aB] at h;repeat (split at h;· omega)
  have h9:=hbH y B h;omega
 rintro res H' nx' ⟨sc,rfl,rfl⟩;simp only [F53,seval];refine cm (dz 50 (.own 48 sc L.count 3::ai (enc 0)) (by rfl) (by show (4:Nat)≠0;decide) (by rfl) (fun κ vs h=>m6 _ h)) ?_;simp only [F53,seval];obtain ⟨s,hs⟩:∃n,nx'=n:=⟨_,rfl⟩;simp only [hs];refine awN ?_;simp only [F53,seval,ai];refine eC H [5,15,16,17] [50,48] (fun y B h=>by right;have h9:=hbH y B h;simp only [aB];(repeat rw [if_neg (by omega)]);exact h) ?_;try simp only [ak,F53,seval]
 repeat' first|apply awS|apply awB
 refine aM (fun n st=>∃i0 X nx,i0<=L.pools.length/\n=L.pools.length-i0/\cG (L.pools.drop i0) X=cG L.pools g/\X.length=L.count/\st=⟨mkT [(5,.val (.one (.ptr 50 s 0))),(15,.val (.one (.sh 2 L.pools.length (aA cY L.pools)))),(16,one (.int .i64 L.pools.length)),(17,one (.int .i64 i0))],bZ H [(50,⟨s,200,4,1,.own 48 sc L.count 3::ai (enc 0)⟩),(48,⟨sc,32,3,L.count,aA cQ X⟩)],nx,37⟩) (L.pools.length) ⟨0,g,_,by omega,by omega,by rfl,(by first|omega|assumption|rfl|simp|(simp;omega)),rfl⟩ ?_;rintro n0 st ⟨i0,X,nx0,hk0,rfl,hL0,hV0_1,rfl⟩;by_cases hlt0:i0<L.pools.length
 ·have hI0:(i0:Int)<(L.pools.length:Int):=by omega
  have hat0:=aO ko L.pools i0 hlt0;try rw [Nat.mul_one] at hat0
  rw [List.drop_eq_getElem_cons hlt0] at hL0;have hpm:=hmem _ (List.getElem_mem hlt0);have hX:=hV0_1;generalize L.pools[i0]=p at *
  simp only [cG] at hL0;refine awN ?_;simp only [F53,seval,ai,hI0];refine awT ?_;refine awK ?_;simp only [F53,seval];refine awN ?_;simp only [F53,seval,hI0,hat0,cY];repeat refine ob ?_
  refine awN ?_;simp only [F53,seval];have hpn:=hpm.1;refine eC H [5,15,16,17,22,23,24] [50,48] (fun y B h=>by right;have h9:=hbH y B h;simp only [aB];(repeat rw [if_neg (by omega)]);exact h) ?_;try simp only [ak,F53,seval]
  repeat' first|apply awS|apply awB
  refine aM (fun n st=>∃i1 X2 nx,i1<=p.1.length/\n=p.1.length-i1/\fq (p.1.drop i1) X2=fq p.1 X/\X2.length=L.count/\st=⟨mkT [(5,.val (.one (.ptr 50 s 0))),(15,.val (.one (.sh 2 L.pools.length (aA cY L.pools)))),(16,one (.int .i64 L.pools.length)),(17,one (.int .i64 i0)),(22,.val (.one (.sh 1 p.1.length (aA cI p.1)))),(23,one (.int .i64 p.1.length)),(24,one (.int .i64 i1))],bZ H [(50,⟨s,200,4,1,.own 48 sc L.count 3::ai (enc 0)⟩),(48,⟨sc,32,3,L.count,aA cQ X2⟩)],nx,37⟩) (p.1.length) ⟨0,X,_,by omega,by omega,by rfl,(by first|omega|assumption|rfl|simp|(simp;omega)),rfl⟩ ?_;rintro n1 st ⟨i1,X2,nx1,hk1,rfl,hL1,hV1_1,rfl⟩;by_cases hlt1:i1<p.1.length
  ·have hI1:(i1:Int)<(p.1.length:Int):=by omega
   have hat1:=aO mO p.1 i1 hlt1;try rw [Nat.mul_one] at hat1
   rw [List.drop_eq_getElem_cons hlt1] at hL1;have hxx:=hpm.2 _ (List.getElem_mem hlt1);have hX2:=hV1_1;generalize p.1[i1]=x at *
   simp only [fq] at hL1;refine awN ?_;simp only [F53,seval,ai,hI1];refine awT ?_;refine awK ?_;simp only [F53,seval];refine awN ?_;simp only [F53,seval,hI1,hat1,cI];repeat refine ob ?_
   obtain ⟨k,hxk⟩:∃k:Nat,x=(k:Int):=⟨x.toNat,by omega⟩;have hkl:k<X2.length:=by omega
   have hkt:x.toNat=k:=by omega
   have hset:=dP bH X2 k 0 hkl;simp only [cQ,bf] at hset;have hfl:=bo bH X2;rw [hX2] at hfl;refine awN ?_;simp only [F53,seval,hkt,hset,hfl];repeat refine ob ?_
   refine awN ?_;simp only [F53,seval];repeat refine ob ?_
   refine ⟨_,fP H [5,15,16,17,22,23,24] [50,48] (fun y B h=>by right;have h9:=hbH y B h;simp only [aB];(repeat rw [if_neg (by omega)]);exact h),p.1.length-(i1+1),by omega,i1+1,(X2.set k 0),?a10_nx,by omega,rfl,?i10_0,?i10_1,?st10⟩;case st10=>(simp only [F53,seval];first|rfl|(simp [List.length_set,hI0,hat0,hI1,hat1,Nat.add_mul];done))
   case i10_0=>(rw [hkt] at hL1;exact hL1)
   all_goals (first|omega|assumption|(simp;omega)|(simp_all;done))
  obtain rfl:i1=p.1.length:=by omega
  have hI1:¬(p.1.length:Int)<(p.1.length:Int):=by omega
  rw [List.drop_length] at hL1;simp only [fq] at hL1;refine awN ?_;simp only [F53,seval,ai,hI1];refine awF ?_;refine awQ ?_;simp only [F53,seval];refine awN ?_;simp only [F53,seval];repeat refine ob ?_
  refine ⟨_,fP H [5,15,16,17] [50,48] (fun y B h=>by right;have h9:=hbH y B h;simp only [aB];(repeat rw [if_neg (by omega)]);exact h),L.pools.length-(i0+1),by omega,i0+1,(X2),?a13_nx,by omega,rfl,?i13_0,?i13_1,?st13⟩;case st13=>(simp only [F53,seval];first|rfl|(simp [hI0,hat0,hI1,Nat.add_mul];done))
  case i13_0=>(first|exact hL0|(rw [←hL0];simp [←hL1];done)|(rw [←hL0];simp only [reduceIte,hI0,hat0,hI1];done)|(rw [←hL0];simp [hI0,hat0,hI1];done)|(simp [hI0,hat0,hI1] at hL0;simpa using hL0)|(rw [←hL0];simp [*];done))
  all_goals (first|omega|assumption|(simp;omega)|(simp_all;done))
 obtain rfl:i0=L.pools.length:=by omega
 have hI0:¬(L.pools.length:Int)<(L.pools.length:Int):=by omega
 rw [List.drop_length] at hL0;simp only [cG] at hL0;refine awN ?_;simp only [F53,seval,ai,hI0];refine awF ?_;refine awQ ?_;simp only [F53,seval];refine awN ?_;simp only [F53,seval];simp only [F53,seval,hL0];refine eC H [4] [50,48] (fun y B h=>by right;have h9:=hbH y B h;simp only [aB];(repeat rw [if_neg (by omega)]);exact h) ?_;simp only [F53,seval,←hL0];refine awX ?_;simp only [F53,seval];first|exact ⟨_,_,rfl,rfl⟩|simp
structure delB (L:WL) (K Sm M Z G K2 S2 Z2:Nat):Prop where
 n:L.count<=1000
 pn:L.pools.length<=1000
 rk:wOK K Sm L.ranks
 rin:∀t∈L.ranks,wIn L.count t
 z:K+(M+L.ranks.length*(Sm+1))+Sm<=Z
 g:1+wN L.ranks*(Z+1)<=G
 gz:Z<=G
 gb:G<=40000000
 pl:∀p∈L.pools,wOK K2 S2 p.2/\(∀t∈p.2,wIn L.count t)/\p.1.length<=1000/\∀i∈p.1,0<=i/\i<(L.count:Int)
 pz:∀p∈L.pools,K2+(1+p.1.length*(G+1)+p.2.length*(S2+1))+S2<=Z2
 zb:Z2<=40000000000
 b:G+(L.pools.map fun p=>wN p.2).sum*(Z2+1)<=50000000000
def qm (ps:List bX):Nat:=(ps.map fun p=>wN p.2).sum
theorem sr (p:bX) (ps:List bX):qm (p::ps)=wN p.2+qm ps:=rfl
theorem mv {L:WL} {K Sm M Z G K2 S2 Z2:Nat} (h:delB L K Sm M Z G K2 S2 Z2) {m:Rat} (hm:qB M m):∀x∈aW L m,qB G x:=fun x hx=>by
 have h1:=CX h.rk hm (fm L.count);refine (h1.1 x hx).mono ?_;have h2:=h.g;have h3:=h.z;have h4:wN L.ranks*(K+(M+L.ranks.length*(Sm+1))+Sm+1)<=wN L.ranks*(Z+1):=Nat.mul_le_mul_left _ (by omega);omega
theorem zG {n:Nat} (hn:0<n):∀(M:List Int) (l:List Rat),(∀x∈l,qB n x)->∀x∈fq M l,qB n x
 |[],_,h=>h
 |i::M,l,h=>zG hn M _ fun x hx=>by
  rcases List.mem_or_eq_of_mem_set hx with h1|rfl
  ·exact h x h1
  exact bW.mono hn
theorem tS {n:Nat} (hn:0<n):∀(ps:List bX) (l:List Rat),(∀x∈l,qB n x)->∀x∈cG ps l,qB n x
 |[],_,h=>h
 |p::ps,l,h=>tS hn ps _ (zG hn p.1 l h)
theorem ij {G:Nat} {g:List Rat} (hg:∀x∈g,qB G x) (h0:0<G):∀M:List Int,qB (1+M.length*(G+1)) (aK g M)
 |[]=>by simpa [aK] using bW
 |i::M=>by
  have h1:=ij hg h0 M;refine ((l9 hg h0 i.toNat).add h1).mono ?_;simp only [List.length_cons,Nat.add_mul,Nat.one_mul];omega
noncomputable def tT (n:Nat) (R:WR):AV:= .tup [.one (.sh 3 n (aA cQ R.cl)),.agg (ai (enc R.rv))]
def F54:=And.intro zS (And.intro Ez (And.intro CJ (And.intro CL (And.intro Ex (And.intro AY (And.intro Gj (And.intro nX (And.intro CN (And.intro cD (And.intro CP (And.intro xG (And.intro CI (And.intro dN (A0))))))))))))))
theorem F55:type_of%F54:=F54
theorem Dt (L:WL) (m:Rat) (K Sm M Z G K2 S2 Z2:Nat) (hB:delB L K Sm M Z G K2 S2 Z2) (hM:qB M m):aR prog 80 [.agg (bL L),.agg (ai (enc m))] (tT L.count (eQ L m)):=by
 have hGg:=hB.g;have hGz:=hB.gz;have hGb:=hB.gb;have hBb:G+qm L.pools*(Z2+1)<=50000000000:=hB.b;have hG0:0<G:=by omega
 have hLn:=hB.n;have hLp:=hB.pn;refine aP func80 rfl (by decide) (N:=39) rfl (by simp) (R:=[.tmp 4,.cell 5 32]) rfl fun en k0=>?_
 refine awN ?_;simp only [F55,seval,ai,bL];have hG:=mr L m K Sm M Z (by have:=hB.n;omega) hB.rk hB.rin hM hB.z (by omega) (by have:=hB.zb;omega);simp only [ai] at hG;refine awN ?_;simp only [F55,seval,ab aw,ab ar];refine ⟨_,hG,(by first|rfl|simp [al,ax,ab ap]),?_⟩;try simp only [ak,F55,seval]
 have hgl:=gK L m;have hgB:=mv hB hM;obtain ⟨g,hg⟩:∃g,aW L m=g:=⟨_,rfl⟩;rw [hg] at hgl hgB;rw [hg];refine awR [15] [0,0,0,0] ?_;simp only [F55,seval];refine ⟨_,Ds L g _ _ hgl (by have:=hB.n;omega) hB.pn (fun p hp=>⟨(hB.pl p hp).2.2.1,(hB.pl p hp).2.2.2⟩) (fun y B h=>?_),?_⟩
 ·by_cases hy:y<37
  ·exact hy
  exfalso;simp only [aB] at h;repeat rw [if_neg (by omega)] at h
  cases h
 rintro res H' nx' ⟨s,sc,rfl,rfl⟩;simp only [F55,seval];obtain ⟨nx9,hnx9⟩:∃n,nx'=n:=⟨_,rfl⟩;simp only [hnx9];refine awN ?_;simp only [F55,seval,ai];have hR0:(⟨cG L.pools g,0⟩:WR).B (G+0*(Z2+1)):=⟨fun x hx=>(tS (by omega) L.pools g hgB x hx).mono (by omega),bW.mono (by omega)⟩;have hR1:(⟨cG L.pools g,0⟩:WR).cl.length=L.count:=by show (cG L.pools g).length=_;rw [dR];exact hgl
 refine aQ [5,6,7,17,18,19] [50,48,5] ?_;try simp only [ak,F55,seval]
 repeat' first|apply awS|apply awB
 refine aM (fun n st=>∃i0 R w nx,i0<=L.pools.length/\n=L.pools.length-i0/\f6 g (L.pools.drop i0) R=f6 g L.pools ⟨cG L.pools g,0⟩/\R.cl.length=L.count/\R.B (G+w*(Z2+1))/\w+qm (L.pools.drop i0)=qm L.pools/\st=⟨mkT [(5,.val (.one (.ptr 5 2 0))),(6,.val (.one (.sh 3 L.count (aA cQ g)))),(7,.val (.one (.ptr 50 s 0))),(17,.val (.one (.sh 2 L.pools.length (aA cY L.pools)))),(18,one (.int .i64 L.pools.length)),(19,one (.int .i64 i0))],mkH [(50,⟨s,200,4,1,.own 48 sc L.count 3::ai (enc R.rv)⟩),(48,⟨sc,32,3,L.count,aA cQ R.cl⟩),(5,⟨2,32,3,1,[.lit (.bool false),.lit (.string ay),.lit (.string ay)]⟩)],nx,0⟩) (L.pools.length) ⟨0,⟨cG L.pools g,0⟩,0,_,by omega,by omega,by rfl,(by first|omega|assumption|rfl|simp|(simp;omega)),(by first|omega|assumption|rfl|simp|(simp;omega)),(by first|omega|assumption|rfl|simp|(simp;omega)),rfl⟩ ?_;rintro n0 st ⟨i0,R,w,nx0,hk0,rfl,hL0,hV0_1,hV0_2,hV0_3,rfl⟩;by_cases hlt0:i0<L.pools.length
 ·have hI0:(i0:Int)<(L.pools.length:Int):=by omega
  have hat0:=aO ko L.pools i0 hlt0;try rw [Nat.mul_one] at hat0
  rw [List.drop_eq_getElem_cons hlt0] at hL0;have hpp:=hB.pl _ (List.getElem_mem hlt0);have hpz:=hB.pz _ (List.getElem_mem hlt0);have hw0:=hV0_3;rw [List.drop_eq_getElem_cons hlt0,sr] at hw0;have hmw:(w+wN (L.pools[i0]).2)*(Z2+1)=w*(Z2+1)+wN (L.pools[i0]).2*(Z2+1):=Nat.add_mul _ _ _;have hm1:(w+wN (L.pools[i0]).2)*(Z2+1)<=qm L.pools*(Z2+1):=Nat.mul_le_mul_right _ (by omega);have hnl:=l8 (L.pools[i0]).2 (aK g (L.pools[i0]).1) R;have hnx:=(CX hpp.1 (ij hgB (by omega) (L.pools[i0]).1) hV0_2).mono (n:=G+(w+wN (L.pools[i0]).2)*(Z2+1)) (by have h7:wN (L.pools[i0]).2*(K2+(1+(L.pools[i0]).1.length*(G+1)+(L.pools[i0]).2.length*(S2+1))+S2+1)<=wN (L.pools[i0]).2*(Z2+1):=Nat.mul_le_mul_left _ (by omega);omega);generalize L.pools[i0]=p at *
  simp only [f6] at hL0;refine awN ?_;simp only [F55,seval,ai,hI0];refine awT ?_;refine awK ?_;simp only [F55,seval];refine awN ?_;simp only [F55,seval,hI0,hat0,cY];repeat refine ob ?_
  have hT:=mp p g L.count hgl G (fun i hi=>by have:=hpp.2.2.2 i hi;omega) hgB (by omega) (by have:=hpp.2.2.1;omega) (by omega) (by have h8:=Nat.mul_le_mul hpp.2.2.1 (show G+1<=40000001 by omega);omega);simp only [cY,ai] at hT;have hTB:=ij hgB (by omega) p.1;have hRn:=hV0_1;have hRB:=hV0_2;repeat' first|apply awS|apply awB
  refine cb [29] (by kernel_rfl) (.cons 0 true (.cons 1 true (.cons 2 true (.cons 3 true (.cons 5 true (.cons 4 false (.cons 6 false .nil))))))) (by kernel_rfl) (gs:=[none,none,none,none,none,none,none]) (by kernel_rfl) (by simp only [zT,seval];rfl) (by decide) ?_;simp only [F55,seval,ab ap,ab aw,ab bg,(id SD)];refine ⟨_,hT,(by first|rfl|simp [aU,aD,al,ax,A1.cells,ab ap]),?_⟩;try simp only [ak,F55,seval,ai,hI0,hat0,cY,ab ap,ab aw,ab bg]
  repeat refine ob ?_
  refine ⟨_,Fq _ _ s sc L.count R p.2 (aK g p.1) K2 S2 (1+p.1.length*(G+1)) (G+w*(Z2+1)) Z2 (by rfl) (by rfl) hRn (fun y B h=>?_) (by have:=hB.n;omega) hpp.1 hpp.2.1 hTB hRB hpz (by omega) hB.zb,?_⟩
  ·by_cases hy:y<7000
   ·exact hy
   exfalso;simp only [aB] at h;repeat rw [if_neg (by omega)] at h
   cases h
  rintro res H' nx' ⟨rfl,hW⟩;simp only [F55,seval,(id SD)];refine cg hW ?_;simp only [F55,seval];refine awN ?_;simp only [F55,seval,ai];repeat refine ob ?_
  refine ⟨_,aI [5,6,7,17,18,19] [50,48,5],L.pools.length-(i0+1),by omega,i0+1,(gJ p.2 (aK g p.1) R),(w+wN p.2),?a8_nx,by omega,rfl,?i8_0,?i8_1,?i8_2,?i8_3,?st8⟩;case st8=>(simp only [F55,seval];first|rfl|(simp [hI0,hat0,Nat.add_mul];done))
  case i8_0=>(first|exact hL0|(rw [←hL0];simp only [reduceIte,hI0,hat0];done)|(rw [←hL0];simp [hI0,hat0];done)|(simp [hI0,hat0] at hL0;simpa using hL0)|(rw [←hL0];simp [*];done))
  all_goals (first|omega|assumption|(simp;omega)|(simp_all;done))
 obtain rfl:i0=L.pools.length:=by omega
 have hI0:¬(L.pools.length:Int)<(L.pools.length:Int):=by omega
 rw [List.drop_length] at hL0;simp only [f6] at hL0;refine awN ?_;simp only [F55,seval,ai,hI0];refine awF ?_;refine awQ ?_;simp only [F55,seval];refine dp 48 50 0 (by rfl) (by rfl) (by rfl) (by decide) (by show (3:Nat)≠0;decide) (by show (4:Nat)≠0;decide) rfl ?_;simp only [F55,seval];refine awD (scT 0 9 (scq [18] .nil)) [0,0,0,0,0,0,0,0,0,0] ?_;simp only [F55,seval];refine awX ?_;simp only [F55,seval,ab ap];have hd:eQ L m=R:=by unfold eQ;rw [hg,hL0]
 simp [tT,hd,ai]
theorem zH {q:Rat} (h:¬cU q<0):0<=q:=by
 unfold cU at h;rw [fh] at h;grind
theorem zI:∀{l:List GClaim},bq l=0->∀c∈l,0<=c.rank/\c.rank<=7/\0<=qOf c.amount
 |d::l,h,c,hc=>by
  simp only [bq] at h;split at h
  ·cases h
  split at h
  ·cases h
  split at h
  ·cases h
  rename_i h1 h2;rcases List.mem_cons.1 hc with rfl|hc
  ·exact ⟨by omega,by omega,zH h2⟩
  exact zI h c hc
theorem Du {tk : List Bool} : ∀ {l : List GPart}, dv tk l = 0 → ∀ p ∈ l, pOK tk.length p ∧ (p.claim ≠ -1 → tk.getD p.claim.toNat false = false)
  | q :: l, h, p, hp => by
    simp only [dv] at h
    split at h
    · cases h
    rename_i h1
    split at h
    · cases h
    rename_i h2
    split at h
    · cases h
    rename_i h3
    split at h
    · cases h
    rename_i h4
    rcases List.mem_cons.1 hp with rfl | hp
    · refine ⟨⟨?_, fun h5 => ?_⟩, fun h5 => ?_⟩
      · by_cases h6 : p.claim = -1
        · exact .inl h6
        have h7 := fun h => h1 ⟨h6, h⟩
        exact .inr ⟨by omega, by omega⟩
      · have hc : p.capped = true := by
          rcases h5 with h5 | h5
          · cases hx : p.capped with
            | true => rfl
            | false => exact absurd ⟨h5, hx⟩ h2
          exact h5
        exact zH fun h => h3 ⟨hc, h⟩
      cases hx : tk.getD p.claim.toNat false with
      | false => rfl
      | true => exact absurd ⟨h5, hx⟩ h4
    exact Du h p hp
theorem GW {a:bR} {tk:List Bool} (h:eP a tk=0):a.length<=24/\(∀t∈a,t.length<=24)/\a.flatten.length<=576/\(∀p∈a.flatten,pOK tk.length p/\(p.claim≠ -1->tk.getD p.claim.toNat false=false)):=by
 have h0:=mQ h;unfold eP at h;split at h
 ·cases h
 rename_i h1;refine ⟨h0.1,fun t ht=>?_,h0.2.1,Du h⟩;have h2:¬a.any eb=true:=fun h=>h1 (.inr h)
 have h3:eb t≠true:=fun h=>h2 (List.any_eq_true.2 ⟨t,ht,h⟩)
 unfold eb at h3;simp only [ne_eq,decide_eq_true_eq] at h3;omega
theorem m7:∀(l:List Int) (tk:List Bool) (i:Nat),tk.getD i false=true->(lZ tk l).getD i false=true
 |[],_,_,h=>h
 |j::l,tk,i,h=>by
  rw [lZ];refine m7 l _ i ?_;by_cases hj:j.toNat=i
  ·subst hj;have hi:j.toNat<tk.length:=by
    apply Classical.byContradiction;intro hn;rw [List.getD_eq_getElem?_getD,List.getElem?_eq_none (by omega)] at h;cases h
   rw [List.getD_eq_getElem?_getD,List.getElem?_set_self hi];rfl
  rw [List.getD_eq_getElem?_getD,List.getElem?_set_ne hj,←List.getD_eq_getElem?_getD];exact h
theorem zJ:∀(l:List Int) (tk:List Bool) (i:Int),i∈l->i.toNat<tk.length->(lZ tk l).getD i.toNat false=true
 |j::l,tk,i,h,hi=>by
  rw [lZ];by_cases hj:i=j
  ·subst hj;refine m7 l _ _ ?_;rw [List.getD_eq_getElem?_getD,List.getElem?_set_self hi];rfl
  refine zJ l _ i ?_ (by rw [List.length_set];exact hi);rcases List.mem_cons.1 h with h|h
  ·exact absurd h hj
  exact h
theorem zK:∀{l:List bR} {tk:List Bool},f4 tk l=0->(∀a∈l,a.length<=24/\(∀t∈a,t.length<=24)/\a.flatten.length<=576/\aOK tk.length a/\∀i∈mem a,tk.getD i.toNat false=false)/\l.Pairwise fun a b=>∀i∈mem a,i∉mem b
 |[],tk,_=>⟨by simp,.nil⟩
 |a::l,tk,h=>by
  simp only [f4] at h;split at h
  ·rename_i h1;exact absurd h h1
  rename_i h1;have h1':eP a tk=0:=Classical.not_not.1 h1;obtain ⟨g1,g2,g3,g4⟩:=GW h1';obtain ⟨k1,k2⟩:=zK h;have hmem:∀i∈mem a,tk.getD i.toNat false=false/\i.toNat<tk.length:=fun i hi=>by
   obtain ⟨p,p1,p2,p3⟩:=iS (ka hi);obtain ⟨q1,q2⟩:=g4 p p1;rw [←p2];refine ⟨q2 p3,?_⟩;rcases q1.1 with h|h
   ·exact absurd h p3
   omega
  rw [gU] at k1;refine ⟨fun b hb=>?_,List.pairwise_cons.2 ⟨fun b hb i hi hib=>?_,k2⟩⟩
  ·rcases List.mem_cons.1 hb with rfl|hb
   ·exact ⟨g1,g2,g3,fun t ht x hx=>(g4 x (List.mem_flatten.2 ⟨t,ht,hx⟩)).1,fun i hi=>(hmem i hi).1⟩
   obtain ⟨j1,j2,j3,j4,j5⟩:=k1 b hb;refine ⟨j1,j2,j3,j4,fun i hi=>?_⟩;cases hx:tk.getD i.toNat false with
   |false=>rfl
   |true=>
    have h8:=m7 (mem a) tk _ hx;rw [j5 i hi] at h8;cases h8
  have h8:=zJ (mem a) tk i hi (hmem i hi).2;rw [(k1 b hb).2.2.2.2 i hib] at h8;cases h8
theorem wg:∀(n:Nat) (M:List Int),M.Nodup->(∀i∈M,0<=i/\i<(n:Int))->M.length<=n
 |0,M,_,h=>by
  cases M with
  |nil=>simp
  |cons i M=>have:=h i (by simp);omega
 |n+1,M,hn,h=>by
  have h1:=wg n (M.erase (n:Int)) (hn.erase _) fun i hi=>by
   have h2:=(List.Nodup.mem_erase_iff hn).1 hi;have h3:=h i h2.2;omega
  have h4:M.length<=(M.erase (n:Int)).length+1:=by
   rw [List.length_erase];split<;>omega
  omega
structure wcOK (e:GEst):Prop where
 n:e.claims.length<=24
 an:e.agrs.length<=12
 cl:wEst e.claims
 ag:∀a∈e.agrs,a.length<=24/\(∀t∈a,t.length<=24)/\a.flatten.length<=576/\aOK e.claims.length a
 mi:∀a∈e.agrs,(∀i∈mem a,0<=i/\i<(e.claims.length:Int))/\(mem a).length<=e.claims.length
 ds:Gx (az e).pools
theorem iC {e:GEst} (h:bv e=0):wcOK e:=by
 unfold bv at h;split at h
 ·cases h
 rename_i h1;split at h
 ·cases h
 split at h
 ·rename_i h3;exact absurd h h3
 rename_i h3;have hc:=zI (Classical.not_not.1 h3);obtain ⟨g1,g2⟩:=zK h;rw [List.length_replicate] at g1;have hm:∀a∈e.agrs,∀i∈mem a,0<=i/\i<(e.claims.length:Int):=fun a ha i hi=>by
  obtain ⟨p,p1,p2,p3⟩:=iS (ka hi);obtain ⟨t,ht,hp⟩:=List.mem_flatten.1 p1;rcases ((g1 a ha).2.2.2.1 t ht p hp).1 with h|h
  ·exact absurd h p3
  rw [←p2];exact h
 refine ⟨by omega,by omega,⟨fun c hcm=>(hc c hcm).2.2,fun c hcm=>⟨(hc c hcm).1,(hc c hcm).2.1⟩⟩,fun a ha=>⟨(g1 a ha).1,(g1 a ha).2.1,(g1 a ha).2.2.1,(g1 a ha).2.2.2.1⟩,fun a ha=>⟨hm a ha,wg _ _ (kf a) (hm a ha)⟩,?_⟩;show (e.agrs.map (aV e.claims)).Pairwise _;rw [List.pairwise_map];exact g2
theorem wcOK.eOK {e:GEst} (h:wcOK e):eOK e:=⟨h.cl,fun a ha=>(h.ag a ha).2.2.2,h.ds⟩
theorem ku:∀a:List (List GPart),pN a=a.flatten.length
 |[]=>rfl
 |t::a=>by rw [pN,ku a,List.flatten_cons,List.length_append]
theorem ss:∀(t:List GPart) (rest:List Rat),(b8 t rest).2.length=t.length
 |[],_=>rfl
 |x::t,rest=>by simp only [b8,List.length_cons,ss t]
theorem eU:∀(a:List (List GPart)) (rest:List Rat),(bb a rest).2.length=a.length/\wN (bb a rest).2=pN a
 |[],_=>⟨rfl,rfl⟩
 |t::a,rest=>by
  obtain ⟨h1,h2⟩:=eU a (b8 t rest).1;simp only [bb,List.length_cons,wN,pN,h1,h2,ss,and_self]
theorem Fr (c:GClaim) (l:List GClaim) (i:Nat):∀(n s:Nat),wN ((List.range' s n).map fun r:Nat=>wRk (r:Int) (c::l) i)<=wN ((List.range' s n).map fun r:Nat=>wRk (r:Int) l (i+1))+if (s:Int)<=c.rank then 1 else 0
 |0,s=>by simp [wN]
 |n+1,s=>by
  have ih:=Fr c l i n (s+1);rw [List.range'_succ,List.map_cons,List.map_cons,wN,wN];simp only [wRk] at ih ⊢;by_cases h1:c.rank=(s:Int)
  ·rw [if_pos h1];have h2:¬((s+1:Nat):Int)<=c.rank:=by omega
   rw [if_neg h2] at ih;rw [if_pos (by omega)];simp only [List.length_cons];omega
  rw [if_neg h1];by_cases h2:((s+1:Nat):Int)<=c.rank
  ·rw [if_pos h2] at ih;rw [if_pos (by omega)];omega
  rw [if_neg h2] at ih;split<;>omega
theorem Dv:∀(n s i:Nat),wN ((List.range' s n).map fun r:Nat=>wRk (r:Int) [] i)=0
 |0,_,_=>rfl
 |n+1,s,i=>by rw [List.range'_succ,List.map_cons,wN,Dv n (s+1) i];rfl
theorem wh:∀(cs:List GClaim) (i:Nat),wN ((List.range' 0 8).map fun r:Nat=>wRk (r:Int) cs i)<=cs.length
 |[],i=>by rw [Dv];exact Nat.zero_le _
 |c::cs,i=>by
  have h1:=Fr c cs i 8 0;have h2:=wh cs (i+1);have h3:(if ((0:Nat):Int)<=c.rank then 1 else 0)<=1:=by split<;>omega
  rw [List.length_cons];omega
theorem jL (cs:List GClaim):wN (aC cs)<=cs.length:=by
 unfold aC;rw [List.range_eq_range'];exact wh cs 0
theorem zL {n K Km:Nat} (hK0:0<K):∀(t:List GPart) (rest:List Rat) (B:Nat),(∀y∈rest,qB B y)->K<=B->B+t.length*(K+1)<=Km->(∀x∈t,sB K x.cap)->
  (∀y∈(b8 t rest).1,qB (B+t.length*(K+1)) y)/\∀p∈(b8 t rest).2,qB Km p.2
 |[],rest,B,h,_,_,_=>⟨by simpa [b8] using h,by simp [b8]⟩
 |x::t,rest,B,h,hK,hm,hx=>by
  simp only [List.length_cons,Nat.succ_mul] at hm ⊢;obtain ⟨h1,h2⟩:=kp h ((hx x (by simp)).qB hK0) hK (by omega);obtain ⟨h3,h4⟩:=zL (n:=n) (Km:=Km) hK0 t (cp rest x).1 (B+(K+1)) h1 (by omega) (by omega) fun y hy=>hx y (by simp [hy])
  refine ⟨fun y hy=>(h3 y hy).mono (by omega),fun p hp=>?_⟩;simp only [b8] at hp;rcases List.mem_cons.1 hp with rfl|hp
  ·exact h2.mono (by omega)
  exact h4 p hp
theorem qn {K Km:Nat} (hK0:0<K):∀(a:List (List GPart)) (rest:List Rat) (B:Nat),(∀y∈rest,qB B y)->K<=B->B+pN a*(K+1)<=Km->(∀t∈a,∀x∈t,sB K x.cap)->
  (∀y∈(bb a rest).1,qB Km y)/\∀t∈(bb a rest).2,∀p∈t,qB Km p.2
 |[],rest,B,h,_,hm,_=>⟨fun y hy=>(h y hy).mono (by omega),by simp [bb]⟩
 |t::a,rest,B,h,hK,hm,hx=>by
  simp only [pN,Nat.add_mul] at hm;obtain ⟨h1,h2⟩:=zL (n:=0) (Km:=Km) hK0 t rest B h hK (by omega) (hx t (by simp));obtain ⟨h3,h4⟩:=qn (Km:=Km) hK0 a (b8 t rest).1 _ h1 (by omega) (by omega) fun u hu=>hx u (by simp [hu])
  refine ⟨h3,fun u hu=>?_⟩;simp only [bb] at hu;rcases List.mem_cons.1 hu with rfl|hu
  ·exact h2
  exact h4 u hu
def x8 (K:Nat) (e:GEst):Prop:=sB K e.cash/\(∀c∈e.claims,sB K c.amount)/\∀a∈e.agrs,∀t∈a,∀p∈t,sB K p.cap
theorem jb {e:GEst} (h:wcOK e) {K:Nat} (hs:x8 K e) (hK0:0<K) (hK:K<=10000):∀a∈e.agrs,layB e.claims a K (K+576*(K+1)):=fun a ha=>by
 obtain ⟨g1,g2,g3,g4⟩:=h.ag a ha;obtain ⟨m1,m2⟩:=h.mi a ha;have hn:=h.n;refine ⟨by omega,hs.2.1,by omega,fun t ht=>⟨by have:=g2 t ht;omega,fun x hx=>⟨(g4 t ht x hx).1,hs.2.2 a ha t ht x hx⟩⟩,by omega,m1,hK0,?_,by omega⟩;have:=Nat.mul_le_mul_right (K+1) (show pN a<=576 by rw [ku];exact g3);omega
def kS (nc K:Nat):Nat:=1+nc*(K+1)
def kZ (nc K M:Nat):Nat:=K+(M+8*(kS nc K+1))+kS nc K
def kG (nc K M:Nat):Nat:=1+nc*(kZ nc K M+1)+kZ nc K M
def kK (K:Nat):Nat:=K+576*(K+1)
def kT (K:Nat):Nat:=1+24*(kK K+1)
def kY (nc K M:Nat):Nat:=kK K+(1+nc*(kG nc K M+1)+25*(kT K+1))+kT K
theorem EX {e:GEst} (h:wcOK e) {K M nc na:Nat} (hs:x8 K e) (hK0:0<K) (hnc:e.claims.length<=nc) (hnc2:nc<=24) (hna:e.agrs.length<=na)
  (hb:kG nc K M<=40000000/\kY nc K M<=40000000000/\kG nc K M+(na*600)*(kY nc K M+1)<=50000000000):delB (az e) K (kS nc K) M (kZ nc K M) (kG nc K M) (kK K) (kT K) (kY nc K M):=by
 obtain ⟨b1,b2,b3⟩:=hb;have hn:=h.n;have han:=h.an;have e1:(az e).count=e.claims.length:=rfl;have e2:(az e).ranks=aC e.claims:=rfl;have e3:(az e).pools=e.agrs.map (aV e.claims):=rfl;have hrn:=jL e.claims;have hpl:∀p∈(az e).pools,wOK (kK K) (kT K) p.2/\(∀t∈p.2,wIn (az e).count t)/\(p.1.length<=nc/\p.2.length<=25/\wN p.2<=600)/\∀i∈p.1,0<=i/\i<((az e).count:Int):=fun p hp=>by
  rw [e3] at hp;obtain ⟨a,ha,rfl⟩:=List.mem_map.1 hp;obtain ⟨g1,g2,g3,g4⟩:=h.ag a ha;obtain ⟨m1,m2⟩:=h.mi a ha;have hlad:=me (cs:=e.claims) g4 h.cl.am;obtain ⟨w1,w2⟩:=eU a (e.claims.map fun c=>qOf c.amount);have hpn:pN a<=576:=by rw [ku];exact g3
  have hpk:=Nat.mul_le_mul_right (K+1) hpn;obtain ⟨B1,B2⟩:=qn (Km:=kK K) hK0 a (e.claims.map fun c=>qOf c.amount) K (fun y hy=>by
   obtain ⟨c,hc,rfl⟩:=List.mem_map.1 hy;exact (hs.2.1 c hc).qB hK0) (Nat.le_refl _) (by unfold kK;omega) (hs.2.2 a ha)
  have htl:∀t∈(aV e.claims a).2,t.length<=24/\∀p∈t,qB (kK K) p.2:=fun t ht=>by
   rcases List.mem_append.1 ht with ht|ht
   ·refine ⟨?_,B2 t ht⟩;obtain ⟨_,_,_,_,hmap⟩:=kg a (e.claims.map fun c=>qOf c.amount) g4 (by simp) (fun x hx=>by obtain ⟨c,h1,rfl⟩:=List.mem_map.1 hx;exact h.cl.am c h1);have h1:t.map (·.1)∈(bb a (e.claims.map fun c=>qOf c.amount)).2.map (fun t=>t.map (·.1)):=List.mem_map.2 ⟨t,ht,rfl⟩;rw [hmap] at h1;obtain ⟨u,hu,he⟩:=List.mem_map.1 h1;have h2:=congrArg List.length he;simp only [List.length_map] at h2;have:=g2 u hu;omega
   simp only [List.mem_singleton] at ht;subst ht;refine ⟨by unfold dG;rw [List.length_map];omega,fun p hp=>?_⟩;obtain ⟨j,_,rfl⟩:=List.mem_map.1 hp;exact l9 B1 (by unfold kK;omega) _
  have e4:(aV e.claims a).2.length=a.length+1:=by show ((bb a _).2++[_]).length=_;rw [List.length_append,w1];rfl
  refine ⟨⟨by omega,fun t ht=>?_⟩,fk hlad rfl,⟨?_,by omega,?_⟩,m1⟩
  ·obtain ⟨t1,t2⟩:=htl t ht;refine ⟨by omega,(iW t t2).mono ?_,t2⟩;have:=Nat.mul_le_mul_right (kK K+1) t1;unfold kT;omega
  ·show (mem a).length<=nc;omega
  show wN ((bb a _).2++[_])<=600;rw [iV,w2];have:(dG (mem a) (bb a (e.claims.map fun c=>qOf c.amount)).1).length<=24:=by unfold dG;rw [List.length_map];omega
  simp only [wN];omega
 refine ⟨by omega,by rw [e3,List.length_map];omega,⟨by rw [e2,dI];omega,fun t ht=>?_⟩,by rw [e2];exact dS e.claims,?_,?_,by unfold kG;omega,b1,fun p hp=>?_,fun p hp=>?_,b2,?_⟩
 ·rw [e2] at ht;obtain ⟨r,_,rfl⟩:=gL ht;have h1:=oc (r:Int) e.claims 0;have h2:∀p∈wRk (r:Int) e.claims 0,qB K p.2:=fun p hp=>by
   obtain ⟨_,_,c,h3,h4⟩:=lv (r:Int) e.claims 0 p hp;rw [h4];exact (hs.2.1 c h3).qB hK0
  refine ⟨by omega,(iW _ h2).mono ?_,h2⟩;have:=Nat.mul_le_mul_right (K+1) (show (wRk (r:Int) e.claims 0).length<=nc by omega);unfold kS;omega
 ·rw [e2,dI];unfold kZ;omega
 ·have:=Nat.mul_le_mul_right (kZ nc K M+1) (show wN (az e).ranks<=nc by rw [e2];omega);unfold kG;omega
 ·obtain ⟨p1,p2,p3,p4⟩:=hpl p hp;exact ⟨p1,p2,by omega,p4⟩
 ·obtain ⟨p1,p2,p3,p4⟩:=hpl p hp;have h1:=Nat.mul_le_mul_right (kG nc K M+1) p3.1;have h2:=Nat.mul_le_mul_right (kT K+1) p3.2.1;unfold kY;omega
 have h1:∀ps:List bX,(∀p∈ps,wN p.2<=600)->(ps.map fun p=>wN p.2).sum<=ps.length*600:=by
  intro ps;induction ps with
  |nil=>intro _;simp
  |cons p ps ih=>
   intro hp;have h2:=ih fun q hq=>hp q (by simp [hq])
   have h3:=hp p (by simp);simp only [List.map_cons,List.sum_cons,List.length_cons];omega
 have h2:=h1 (az e).pools fun p hp=>(hpl p hp).2.2.1.2.2
 have h3:(az e).pools.length<=na:=by rw [e3,List.length_map];exact hna
 have h4:=Nat.mul_le_mul_right (kY nc K M+1) (Nat.le_trans h2 (Nat.mul_le_mul_right 600 h3));omega
theorem wi {K S A n:Nat} {l:List WT} (h:wOK K S l) (m:Rat) {r:Rat} (hr:qB A r) {R:WR} (hR:R.B n):(cO l m r R).B (n+wN l*(K+(A+S)+1)):=by
 unfold cO dU;split
 ·rename_i hk;have hN:=vI l _ hk;have hgd:l.getD (aG l m).1 []=l[(aG l m).1]:=by rw [List.getD_eq_getElem?_getD,List.getElem?_eq_getElem hk];rfl
  have hmem:l.getD (aG l m).1 []∈l:=by rw [hgd];exact List.getElem_mem hk
  rw [←hgd] at hN;have h5:=h.2 _ hmem;generalize l.getD (aG l m).1 []=t at *
  have h6:=xO (z:=K+(A+S)) (r/av t) t _ _ hR fun p hp=>((h5.2.2 p hp).mul (hr.div h5.2.1))
  have h7:t.length*(K+(A+S)+1)<=wN l*(K+(A+S)+1):=Nat.mul_le_mul_right _ (by omega);exact h6.mono (by omega)
 exact hR.mono (by omega)
theorem su {L:WL} {K S:Nat} (h:wOK K S L.ranks) (m:Rat):∀x∈ba L m,qB (1+wN L.ranks*(K+(1+S)+1)) x:=
 (wi h m ti (fm L.count)).1
theorem wj {L:WL} {K Sm M Z G K2 S2 Z2:Nat} (h:delB L K Sm M Z G K2 S2 Z2) (hM:0<M) (m:Rat):∀x∈ba L m,qB G x:=fun x hx=>by
 refine (su h.rk m x hx).mono ?_;have h2:=h.g;have h3:=h.z;have h4:wN L.ranks*(K+(1+Sm)+1)<=wN L.ranks*(Z+1):=Nat.mul_le_mul_left _ (by omega);omega
theorem zM {S:Nat}:∀(l:List WT),(∀t∈l,qB S (av t))->qB (1+l.length*(S+1)) (co l)
 |[],_=>by simpa [co] using bW
 |t::l,h=>by
  have h1:=zM l fun x hx=>h x (by simp [hx])
  refine ((h t (by simp)).add h1).mono ?_;simp only [List.length_cons,Nat.add_mul,Nat.one_mul];omega
theorem m8:∀(l:List WT) (m:Rat),m=co (l.take (aG l m).1)+(aG l m).2
 |[],m=>by simp only [aG,List.take_nil,co];grind
 |t::l,m=>by
  by_cases h:m<av t
  ·simp only [aG,h,if_true,List.take_zero,co];grind
  have h1:=m8 l (m-av t);simp only [aG,h,if_false,List.take_succ_cons,co];grind
theorem nP:∀(l:List WT) (m:Rat),0<=m->wNN l->a8 l m->aG l (co (l.take (aG l m).1))=((aG l m).1,0)
 |[],m,_,_,h=>absurd h (by simp [a8,aG])
 |t::l,m,hm,hn,ho=>by
  by_cases h:m<av t
  ·have h0:(0:Rat)<av t:=by grind
   simp only [aG,h,if_true,List.take_zero,co,h0]
  have h2:a8 l (m-av t):=by
   rcases (cV t l m).1 ho with h3|h3
   ·exact absurd h3 h
   exact h3
  have h1:=nP l (m-av t) (by grind) (fun x hx=>hn x (by simp [hx])) h2;have hc:=mc (l.take (aG l (m-av t)).1) fun x hx=>hn x (by have:=List.mem_of_mem_take hx;simp [this])
  simp only [aG,h,if_false,List.take_succ_cons,co];have h3:¬av t+co (l.take (aG l (m-av t)).1)<av t:=by grind
  rw [if_neg h3,show av t+co (l.take (aG l (m-av t)).1)-av t=co (l.take (aG l (m-av t)).1) by grind,h1]
theorem Bg (l:List WT) (k:Nat) (h:k<l.length):co (l.take (k+1))=co (l.take k)+av (l.getD k []):=by
 have hgd:l.getD k []=l[k]:=by rw [List.getD_eq_getElem?_getD,List.getElem?_eq_getElem h];rfl
 rw [List.take_add_one,List.getElem?_eq_getElem h,vP,hgd];simp only [Option.toList,co];grind
theorem zO (l:List WT) (m:Rat) (h:a8 l m):m+cu l m=co (l.take ((aG l m).1+1)):=by
 have h1:=m8 l m;rw [Bg l _ h];unfold cu;grind
theorem Bh {e:GEst} {m:Rat} (h:wEst e.claims) (hm:0<=m) (ho:a8 (aC e.claims) m):
  ∃B,B=co ((aC e.claims).take (aG (aC e.claims) m).1)/\ba (az e) m=ba (az e) B/\(m+bx (az e) m=co ((aC e.claims).take ((aG (aC e.claims) m).1+1))∨
   ∃p∈(az e).pools,∃k,m+bx (az e) m=B+(co (p.2.take k)-aK (aW (az e) B) p.1)/aK (ba (az e) B) p.1):=by
 refine ⟨_,rfl,?_⟩;have hn:=eY h.am;have hb:=nP _ m hm hn ho;have he:=m8 (aC e.claims) m;have hB0:=mc ((aC e.claims).take (aG (aC e.claims) m).1) fun x hx=>hn x (List.mem_of_mem_take hx)
 have hp:=pD (aC e.claims) m hm;generalize hB:co ((aC e.claims).take (aG (aC e.claims) m).1)=B at *
 have hr:ba (az e) m=ba (az e) B:=by
  show (dU (aC e.claims) (aG (aC e.claims) m).1 1 _).cl=(dU (aC e.claims) (aG (aC e.claims) B).1 1 _).cl;rw [hb]
 refine ⟨hr,?_⟩;rcases mY (aW (az e) m) (ba (az e) m) (az e).pools (cu (aC e.claims) m) with h1|⟨p,k1,k2,k3,k4⟩
 ·have h2:bx (az e) m=cu (aC e.claims) m:=h1;exact .inl (by rw [h2];exact zO _ _ ho)
 have h2:bx (az e) m=cu p.2 (aK (aW (az e) m) p.1)/aK (ba (az e) m) p.1:=k4;refine .inr ⟨p,k1,(aG p.2 (aK (aW (az e) m) p.1)).1+1,?_⟩;have h3:=zO _ _ k2;rw [←h3,h2];have hoB:a8 (aC e.claims) B:=by
  unfold a8;rw [hb];exact ho
 have hg:=r8 (m:=B) (h:=(aG (aC e.claims) m).2) h hB0 hp.1 fun _=>by
  have h5:=hp.2 ho;rw [←i8 _ _ hoB];unfold cu;rw [hb];have hgd:(aC e.claims).getD (aG (aC e.claims) m).1 []=(aC e.claims)[(aG (aC e.claims) m).1]'ho:=by rw [List.getD_eq_getElem?_getD,List.getElem?_eq_getElem ho];rfl
  rw [hgd];grind
 rw [←he] at hg;have hT:=pY hg p.1;rw [←hr] at hT ⊢;generalize aK (ba (az e) m) p.1=κ at *
 generalize aK (aW (az e) B) p.1=gB at *
 generalize cu p.2 (aK (aW (az e) m) p.1)=gp at *
 generalize aK (aW (az e) m) p.1=gm at *
 generalize (aG (aC e.claims) m).2=lf at *
 have h6:(gm+gp-gB)/κ=lf+gp/κ:=by
  have h7:gm+gp-gB=lf*κ+gp:=by grind
  rw [h7,Rat.div_def,Rat.div_def,Rat.add_mul];have h8:κ*κ⁻¹=1:=Rat.mul_inv_cancel κ (by grind);rw [Rat.mul_assoc,h8];grind
 rw [h6];grind
def kB (nc K:Nat):Nat:=1+8*(kS nc K+1)
def kR (nc K:Nat):Nat:=1+nc*(K+(1+kS nc K)+1)
def ovr (D X:Nat) (q:Rat):Prop:=(∃z:Int,q*(D:Rat)=(z:Rat))/\0<=q/\q<=(X:Rat)
theorem qo (D X:Nat):ovr D X 0:=⟨⟨0,by rw [Rat.zero_mul];rfl⟩,by grind,Rat.natCast_nonneg⟩
theorem EY {D X:Nat} {p q:Rat} (hp:ovr D X p) (hq:ovr D X q) (h:q<=p):ovr D X (p-q):=by
 obtain ⟨⟨y,hy⟩,p0,p1⟩:=hp;obtain ⟨⟨z,hz⟩,q0,q1⟩:=hq;refine ⟨⟨y-z,?_⟩,by grind,by grind⟩;rw [Rat.intCast_sub,←hy,←hz];grind
theorem zR {D X Y:Nat} {p q:Rat} (hp:ovr D X p) (hq:ovr D Y q):ovr D (X+Y) (p+q):=by
 obtain ⟨⟨y,hy⟩,p0,p1⟩:=hp;obtain ⟨⟨z,hz⟩,q0,q1⟩:=hq;refine ⟨⟨y+z,?_⟩,by grind,?_⟩
 ·rw [Rat.intCast_add,←hy,←hz];grind
 rw [Rat.natCast_add];grind
theorem Dw {D X Y:Nat} {q:Rat} (h:ovr D X q) (hX:X<=Y):ovr D Y q:=⟨h.1,h.2.1,Rat.le_trans h.2.2 (Rat.natCast_le_natCast.2 hX)⟩
theorem zU {D E X:Nat} {q:Rat} (h:ovr D X q):ovr (D*E) X q:=by
 obtain ⟨⟨y,hy⟩,p0,p1⟩:=h;refine ⟨⟨y*(E:Int),?_⟩,p0,p1⟩;have h2:((E:Int):Rat)=(E:Rat):=rfl;rw [Rat.natCast_mul,Rat.intCast_mul,←hy,h2];grind
theorem zV (q:Rat):q*(q.den:Rat)=(q.num:Rat):=by
 have h:(q.den:Rat)≠0:=fun h=>q.den_nz (Rat.natCast_eq_zero_iff.1 h)
 have e:q=(q.num:Rat)/(q.den:Rat):=by rw [←Rat.mkRat_eq_div,Rat.mkRat_self]
 conv=>lhs;lhs;rw [e]
 exact Rat.div_mul_cancel h
theorem Dx {X:Nat} {q:Rat} (h0:0<=q) (hX:q<=(X:Rat)):ovr q.den X q:=⟨⟨q.num,zV q⟩,h0,hX⟩
theorem GX {D X a b:Nat} {q:Rat} (hD0:0<D) (hD:D<=256^a) (hX:X<256^b) (hb:0<b) (h:ovr D X q):qB (a+b) q:=by
 obtain ⟨⟨z,hz⟩,h0,h1⟩:=h;have hDr:(D:Rat)≠0:=fun h=>by have:=Rat.natCast_eq_zero_iff.1 h;omega
 have hDp:(0:Rat)<=(D:Rat):=Rat.natCast_nonneg;have e:q=mkRat z D:=by
  rw [Rat.mkRat_eq_div,←hz];have:=Rat.div_mul_cancel (a:=q) hDr;have h3:q*(D:Rat)/(D:Rat)=q:=by
   rw [Rat.div_def,Rat.mul_assoc,Rat.mul_inv_cancel _ hDr,Rat.mul_one]
  exact h3.symm
 have hz0:0<=z:=Rat.intCast_nonneg.1 (by rw [←hz];exact Rat.mul_nonneg h0 hDp);have hz1:z<=((X*D:Nat):Int):=by
  refine Rat.intCast_le_intCast.1 ?_;have h2:(((X*D:Nat):Int):Rat)=(X:Rat)*(D:Rat):=by rw [←Rat.natCast_mul];rfl
  rw [←hz,h2];exact Rat.mul_le_mul_of_nonneg_right h1 hDp
 have h9:X*D<256^b*256^a:=Nat.lt_of_lt_of_le (Nat.mul_lt_mul_of_pos_right hX hD0) (Nat.mul_le_mul_left _ hD);have h10:256^(a+b)=256^b*256^a:=by rw [Nat.add_comm,Nat.pow_add]
 have h11:1<256^b:=Nat.one_lt_pow (by omega) (by decide);have h12:256^a<256^b*256^a:=by
  have:1*256^a<256^b*256^a:=Nat.mul_lt_mul_of_pos_right h11 (Nat.pow_pos (by decide));omega
 rw [e];refine lU ?_ ?_ (by omega)
 ·rw [h10];omega
 rw [h10];omega
theorem wk {D X:Nat} {l:List Rat} (h:∀y∈l,ovr D X y) (i:Nat):ovr D X (l.getD i 0):=by
 rw [List.getD_eq_getElem?_getD];cases hx:l[i]? with
 |none=>exact qo D X
 |some e=>exact h e (List.mem_of_getElem? hx)
theorem Bi {D X:Nat} {rest:List Rat} {x:GPart} (hr:∀y∈rest,ovr D X y) (hx:x.claim= -1∨x.capped=true->ovr D X (qOf x.cap)):(∀y∈(cp rest x).1,ovr D X y)/\ovr D X (cp rest x).2:=by
 unfold cp;by_cases h1:x.claim= -1
 ·simp only [h1,if_true];exact ⟨hr,hx (.inl h1)⟩
 simp only [h1,if_false];have hg:=wk hr x.claim.toNat;have h5:ovr D X (if x.capped=true then bC (rest.getD x.claim.toNat 0) (qOf x.cap) else rest.getD x.claim.toNat 0)/\(if x.capped=true then bC (rest.getD x.claim.toNat 0) (qOf x.cap) else rest.getD x.claim.toNat 0)<=rest.getD x.claim.toNat 0:=by
  by_cases hc:x.capped=true
  ·have h6:=hx (.inr hc);rw [if_pos hc];unfold bC;split
   ·exact ⟨h6,by grind⟩
   exact ⟨hg,by grind⟩
  rw [if_neg hc];exact ⟨hg,by grind⟩
 generalize (if x.capped=true then bC (rest.getD x.claim.toNat 0) (qOf x.cap) else rest.getD x.claim.toNat 0)=c at *
 refine ⟨fun y hy=>?_,h5.1⟩;rcases List.mem_or_eq_of_mem_set hy with hy|rfl
 ·exact hr y hy
 exact EY hg h5.1 h5.2
theorem sv {D X:Nat}:∀(t:List GPart) (rest:List Rat),(∀y∈rest,ovr D X y)->(∀x∈t,x.claim= -1∨x.capped=true->ovr D X (qOf x.cap))->(∀y∈(b8 t rest).1,ovr D X y)/\∀p∈(b8 t rest).2,ovr D X p.2
 |[],rest,h,_=>⟨h,by simp [b8]⟩
 |x::t,rest,h,hx=>by
  obtain ⟨h1,h2⟩:=Bi h (hx x (by simp));obtain ⟨h3,h4⟩:=sv t (cp rest x).1 h1 fun y hy=>hx y (by simp [hy])
  refine ⟨h3,fun p hp=>?_⟩;simp only [b8] at hp;rcases List.mem_cons.1 hp with rfl|hp
  ·exact h2
  exact h4 p hp
theorem qp {D X:Nat}:∀(a:List (List GPart)) (rest:List Rat),(∀y∈rest,ovr D X y)->(∀t∈a,∀x∈t,x.claim= -1∨x.capped=true->ovr D X (qOf x.cap))->(∀y∈(bb a rest).1,ovr D X y)/\∀t∈(bb a rest).2,∀p∈t,ovr D X p.2
 |[],rest,h,_=>⟨h,by simp [bb]⟩
 |t::a,rest,h,hx=>by
  obtain ⟨h1,h2⟩:=sv t rest h (hx t (by simp));obtain ⟨h3,h4⟩:=qp a (b8 t rest).1 h1 fun u hu=>hx u (by simp [hu])
  refine ⟨h3,fun u hu=>?_⟩;simp only [bb] at hu;rcases List.mem_cons.1 hu with rfl|hu
  ·exact h2
  exact h4 u hu
theorem qq {D X:Nat}:∀t:WT,(∀p∈t,ovr D X p.2)->ovr D (t.length*X) (av t)
 |[],_=>by rw [av];exact qo _ _
 |p::t,h=>by
  have h1:=qq t fun x hx=>h x (by simp [hx])
  rw [av,List.length_cons,Nat.succ_mul,Nat.add_comm];exact zR (h p (by simp)) h1
theorem wl {D X:Nat}:∀l:List WT,(∀t∈l,∀p∈t,ovr D X p.2)->ovr D (wN l*X) (co l)
 |[],_=>by rw [co];exact qo _ _
 |t::l,h=>by
  have h1:=wl l fun x hx=>h x (by simp [hx])
  rw [co,wN,Nat.add_mul];exact zR (qq t (h t (by simp))) h1
def dpr:List Rat->Nat
 |[]=>1
 |q::l=>q.den*dpr l
theorem zW:∀l,0<dpr l
 |[]=>by decide
 |q::l=>Nat.mul_pos q.den_pos (zW l)
theorem Dy {K:Nat}:∀l:List Rat,(∀q∈l,qB K q)->dpr l<=256^(K*l.length)
 |[],_=>by simp [dpr]
 |q::l,h=>by
  have h1:=Dy l fun x hx=>h x (by simp [hx])
  have h2:=(h q (by simp)).2;rw [dpr,List.length_cons,Nat.mul_succ,Nat.pow_add,Nat.mul_comm];exact Nat.mul_le_mul h1 (Nat.le_of_lt h2)
theorem zX {X:Nat} {q:Rat} (h0:0<=q) (hX:q<=(X:Rat)):∀l:List Rat,q∈l->ovr (dpr l) X q
 |[],h=>by cases h
 |x::l,h=>by
  rw [dpr];rcases List.mem_cons.1 h with rfl|h
  ·exact zU (Dx h0 hX)
  rw [Nat.mul_comm];exact zU (zX h0 hX l h)
theorem Iv {K:Nat} {q:Rat} (h:qB K q):q<=((256^K:Nat):Rat):=by
 have h1:(q.num:Rat)<=((256^K:Nat):Rat):=by
  have h2:q.num<=((256^K:Nat):Int):=by have:=h.1;omega
  exact Rat.intCast_le_intCast.2 h2
 by_cases h0:0<=q
 ·refine Rat.le_trans ?_ h1;have h3:=zV q;have h4:(1:Rat)<=(q.den:Rat):=by
   have:((1:Nat):Rat)<=(q.den:Rat):=Rat.natCast_le_natCast.2 q.den_pos;exact this
  have h5:=Rat.mul_le_mul_of_nonneg_left h4 h0;rw [Rat.mul_one,h3] at h5;exact h5
 have h6:q<=0:=by grind
 exact Rat.le_trans h6 Rat.natCast_nonneg
def kC (nc K:Nat):Nat:=K*(nc+576)+(K+2)
def jY (nc K M:Nat):Nat:=kK K+(1+nc*(kG nc K M+1)+25*(kC nc K+1))+kC nc K
theorem sw {e:GEst} (h:wcOK e) {K nc:Nat} (hs:x8 K e) (hK0:0<K) (hnc:e.claims.length<=nc):∀p∈(az e).pools,(∀t∈p.2,qB (kC nc K) (av t))/\∀k,qB (kC nc K) (co (p.2.take k)):=fun p hp=>by
 obtain ⟨a,ha,rfl⟩:=List.mem_map.1 hp;obtain ⟨g1,g2,g3,g4⟩:=h.ag a ha;have hn:=h.n;have hml:=(h.mi a ha).2;obtain ⟨L,hL⟩:∃L:List Rat,L=(e.claims.map fun c=>qOf c.amount)++a.flatten.map fun x=>qOf x.cap:=⟨_,rfl⟩
 have hLq:∀q∈L,qB K q:=fun q hq=>by
  rw [hL] at hq;rcases List.mem_append.1 hq with hq|hq
  ·obtain ⟨c,hc,rfl⟩:=List.mem_map.1 hq;exact (hs.2.1 c hc).qB hK0
  obtain ⟨x,hx,rfl⟩:=List.mem_map.1 hq;obtain ⟨t,ht,hx⟩:=List.mem_flatten.1 hx;exact (hs.2.2 a ha t ht x hx).qB hK0
 have hLl:L.length<=nc+576:=by
  rw [hL,List.length_append,List.length_map,List.length_map];omega
 have hD:dpr L<=256^(K*(nc+576)):=Nat.le_trans (Dy L hLq) (Nat.pow_le_pow_right (by decide) (Nat.mul_le_mul_left _ hLl));have hov:∀q∈L,0<=q->ovr (dpr L) (256^K) q:=fun q hq h0=>zX h0 (Iv (hLq q hq)) L hq
 have hr:∀y∈e.claims.map fun c=>qOf c.amount,ovr (dpr L) (256^K) y:=fun y hy=>by
  refine hov y (by rw [hL];exact List.mem_append_left _ hy) ?_;obtain ⟨c,hc,rfl⟩:=List.mem_map.1 hy;exact h.cl.am c hc
 have hx:∀t∈a,∀x∈t,x.claim= -1∨x.capped=true->ovr (dpr L) (256^K) (qOf x.cap):=fun t ht x hx hc=>by
  refine hov _ ?_ ((g4 t ht x hx).2 hc);rw [hL];exact List.mem_append_right _ (List.mem_map.2 ⟨x,List.mem_flatten.2 ⟨t,ht,hx⟩,rfl⟩)
 obtain ⟨c1,c2⟩:=qp a _ hr hx;have hall:∀t∈(aV e.claims a).2,∀p∈t,ovr (dpr L) (256^K) p.2:=fun t ht=>by
  rcases List.mem_append.1 ht with ht|ht
  ·exact c2 t ht
  simp only [List.mem_singleton] at ht;subst ht;intro p hp;obtain ⟨j,_,rfl⟩:=List.mem_map.1 hp;exact wk c1 _
 obtain ⟨w1,w2⟩:=eU a (e.claims.map fun c=>qOf c.amount);have hwn:wN (aV e.claims a).2<=600:=by
  show wN ((bb a _).2++[_])<=600;rw [iV,w2];have hpn:pN a<=576:=by rw [ku];exact g3
  have:(dG (mem a) (bb a (e.claims.map fun c=>qOf c.amount)).1).length<=24:=by unfold dG;rw [List.length_map];omega
  simp only [wN];omega
 have h6:600*256^K<256^(K+2):=by
  rw [Nat.pow_add,Nat.mul_comm];exact Nat.mul_lt_mul_of_pos_left (by decide) (Nat.pow_pos (by decide))
 have hq:∀{n:Nat} {q:Rat},n<=600->ovr (dpr L) (n*256^K) q->qB (kC nc K) q:=fun {n q} hn hq=>
  GX (zW L) hD h6 (by omega) (Dw hq (Nat.mul_le_mul_right _ hn))
 refine ⟨fun t ht=>hq ?_ (qq t (hall t ht)),fun k=>hq ?_ (wl _ fun t ht=>hall t (List.mem_of_mem_take ht))⟩
 ·obtain ⟨i,hi,hit⟩:=List.getElem_of_mem ht;have:=vI (aV e.claims a).2 i hi;rw [hit] at this;omega
 have h7:=iV ((aV e.claims a).2.take k) ((aV e.claims a).2.drop k);rw [List.take_append_drop] at h7;omega
theorem wq {e:GEst} (h:wcOK e) {K M nc na:Nat} (hs:x8 K e) (hK0:0<K) (hnc:e.claims.length<=nc) (hnc2:nc<=24) (hna:e.agrs.length<=na)
  (hb:kG nc K M<=40000000/\jY nc K M<=40000000000/\kG nc K M+(na*600)*(jY nc K M+1)<=50000000000):delB (az e) K (kS nc K) M (kZ nc K M) (kG nc K M) (kK K) (kC nc K) (jY nc K M):=by
 obtain ⟨b1,b2,b3⟩:=hb;have hn:=h.n;have han:=h.an;have e1:(az e).count=e.claims.length:=rfl;have e2:(az e).ranks=aC e.claims:=rfl;have e3:(az e).pools=e.agrs.map (aV e.claims):=rfl;have hrn:=jL e.claims;have hcap:=sw h hs hK0 hnc;have hpl:∀p∈(az e).pools,wOK (kK K) (kC nc K) p.2/\(∀t∈p.2,wIn (az e).count t)/\(p.1.length<=nc/\p.2.length<=25/\wN p.2<=600)/\∀i∈p.1,0<=i/\i<((az e).count:Int):=fun p hp=>by
  rw [e3] at hp;obtain ⟨a,ha,rfl⟩:=List.mem_map.1 hp;obtain ⟨g1,g2,g3,g4⟩:=h.ag a ha;obtain ⟨m1,m2⟩:=h.mi a ha;have hlad:=me (cs:=e.claims) g4 h.cl.am;obtain ⟨w1,w2⟩:=eU a (e.claims.map fun c=>qOf c.amount);have hpn:pN a<=576:=by rw [ku];exact g3
  have hpk:=Nat.mul_le_mul_right (K+1) hpn;obtain ⟨B1,B2⟩:=qn (Km:=kK K) hK0 a (e.claims.map fun c=>qOf c.amount) K (fun y hy=>by
   obtain ⟨c,hc,rfl⟩:=List.mem_map.1 hy;exact (hs.2.1 c hc).qB hK0) (Nat.le_refl _) (by unfold kK;omega) (hs.2.2 a ha)
  have htl:∀t∈(aV e.claims a).2,t.length<=24/\∀p∈t,qB (kK K) p.2:=fun t ht=>by
   rcases List.mem_append.1 ht with ht|ht
   ·refine ⟨?_,B2 t ht⟩;obtain ⟨_,_,_,_,hmap⟩:=kg a (e.claims.map fun c=>qOf c.amount) g4 (by simp) (fun x hx=>by obtain ⟨c,h1,rfl⟩:=List.mem_map.1 hx;exact h.cl.am c h1);have h1:t.map (·.1)∈(bb a (e.claims.map fun c=>qOf c.amount)).2.map (fun t=>t.map (·.1)):=List.mem_map.2 ⟨t,ht,rfl⟩;rw [hmap] at h1;obtain ⟨u,hu,he⟩:=List.mem_map.1 h1;have h2:=congrArg List.length he;simp only [List.length_map] at h2;have:=g2 u hu;omega
   simp only [List.mem_singleton] at ht;subst ht;refine ⟨by unfold dG;rw [List.length_map];omega,fun p hp=>?_⟩;obtain ⟨j,_,rfl⟩:=List.mem_map.1 hp;exact l9 B1 (by unfold kK;omega) _
  have e4:(aV e.claims a).2.length=a.length+1:=by show ((bb a _).2++[_]).length=_;rw [List.length_append,w1];rfl
  refine ⟨⟨by omega,fun t ht=>?_⟩,fk hlad rfl,⟨?_,by omega,?_⟩,m1⟩
  ·obtain ⟨t1,t2⟩:=htl t ht;exact ⟨by omega,hcap _ (List.mem_map.2 ⟨a,ha,rfl⟩)|>.1 t ht,t2⟩
  ·show (mem a).length<=nc;omega
  show wN ((bb a _).2++[_])<=600;rw [iV,w2];have:(dG (mem a) (bb a (e.claims.map fun c=>qOf c.amount)).1).length<=24:=by unfold dG;rw [List.length_map];omega
  simp only [wN];omega
 refine ⟨by omega,by rw [e3,List.length_map];omega,⟨by rw [e2,dI];omega,fun t ht=>?_⟩,by rw [e2];exact dS e.claims,?_,?_,by unfold kG;omega,b1,fun p hp=>?_,fun p hp=>?_,b2,?_⟩
 ·rw [e2] at ht;obtain ⟨r,_,rfl⟩:=gL ht;have h1:=oc (r:Int) e.claims 0;have h2:∀p∈wRk (r:Int) e.claims 0,qB K p.2:=fun p hp=>by
   obtain ⟨_,_,c,h3,h4⟩:=lv (r:Int) e.claims 0 p hp;rw [h4];exact (hs.2.1 c h3).qB hK0
  refine ⟨by omega,(iW _ h2).mono ?_,h2⟩;have:=Nat.mul_le_mul_right (K+1) (show (wRk (r:Int) e.claims 0).length<=nc by omega);unfold kS;omega
 ·rw [e2,dI];unfold kZ;omega
 ·have:=Nat.mul_le_mul_right (kZ nc K M+1) (show wN (az e).ranks<=nc by rw [e2];omega);unfold kG;omega
 ·obtain ⟨p1,p2,p3,p4⟩:=hpl p hp;exact ⟨p1,p2,by omega,p4⟩
 ·obtain ⟨p1,p2,p3,p4⟩:=hpl p hp;have h1:=Nat.mul_le_mul_right (kG nc K M+1) p3.1;have h2:=Nat.mul_le_mul_right (kC nc K+1) p3.2.1;unfold jY;omega
 have h1:∀ps:List bX,(∀p∈ps,wN p.2<=600)->(ps.map fun p=>wN p.2).sum<=ps.length*600:=by
  intro ps;induction ps with
  |nil=>intro _;simp
  |cons p ps ih=>
   intro hp;have h2:=ih fun q hq=>hp q (by simp [hq])
   have h3:=hp p (by simp);simp only [List.map_cons,List.sum_cons,List.length_cons];omega
 have h2:=h1 (az e).pools fun p hp=>(hpl p hp).2.2.1.2.2
 have h3:(az e).pools.length<=na:=by rw [e3,List.length_map];exact hna
 have h4:=Nat.mul_le_mul_right (jY nc K M+1) (Nat.le_trans h2 (Nat.mul_le_mul_right 600 h3));omega
def jU (nc K:Nat):Nat:=kB nc K+(kC nc K+(1+nc*(kG nc K (kB nc K)+1))+1+(1+nc*(kR nc K+1)))+1
theorem Iw {e:GEst} (h:wcOK e) {K nc na:Nat} (hs:x8 K e) (hK0:0<K) (hnc:e.claims.length<=nc) (hnc2:nc<=24) (hna:e.agrs.length<=na)
  (hb:kG nc K (kB nc K)<=40000000/\jY nc K (kB nc K)<=40000000000/\kG nc K (kB nc K)+(na*600)*(jY nc K (kB nc K)+1)<=50000000000) {m:Rat} (hm:0<=m) (ho:a8 (aC e.claims) m):qB (jU nc K) (m+bx (az e) m):=by
 have hB:=wq h hs hK0 hnc hnc2 hna hb;obtain ⟨B,hBe,hr,hk⟩:=Bh h.cl hm ho;have hl8:(aC e.claims).length=8:=dI _;have hcap:∀k,qB (kB nc K) (co ((aC e.claims).take k)):=fun k=>by
  have h1:=zM ((aC e.claims).take k) fun t ht=>(hB.rk.2 t (List.mem_of_mem_take ht)).2.1
  refine h1.mono ?_;have h2:((aC e.claims).take k).length<=8:=by rw [List.length_take];omega
  have:=Nat.mul_le_mul_right (kS nc K+1) h2;unfold kB;omega
 have hG0:0<kG nc K (kB nc K):=by unfold kG;omega
 rcases hk with hk|⟨p,hp,k,hk⟩
 ·rw [hk];exact (hcap _).mono (by unfold jU;omega)
 rw [hk];have hpn:p.1.length<=nc:=by
  have e3:(az e).pools=e.agrs.map (aV e.claims):=rfl;rw [e3] at hp;obtain ⟨a,ha,rfl⟩:=List.mem_map.1 hp;exact Nat.le_trans (h.mi a ha).2 hnc
 have hpl:=hB.pl p hp;have h25:p.2.length<=25:=by
  have e3:(az e).pools=e.agrs.map (aV e.claims):=rfl;rw [e3] at hp;obtain ⟨a,ha,rfl⟩:=List.mem_map.1 hp;have e4:(aV e.claims a).2.length=a.length+1:=by show ((bb a _).2++[_]).length=_;rw [List.length_append,(eU a _).1];rfl
  have:=(h.ag a ha).1;omega
 have c1:qB (kC nc K) (co (p.2.take k)):=(sw h hs hK0 hnc p hp).2 k;have hBq:qB (kB nc K) B:=by rw [hBe];exact hcap _
 have c2:qB (1+nc*(kG nc K (kB nc K)+1)) (aK (aW (az e) B) p.1):=by
  refine (ij (mv hB hBq) hG0 p.1).mono ?_;have:=Nat.mul_le_mul_right (kG nc K (kB nc K)+1) hpn;omega
 have c3:qB (1+nc*(kR nc K+1)) (aK (ba (az e) B) p.1):=by
  have hR:∀x∈ba (az e) B,qB (kR nc K) x:=fun x hx=>by
   refine (su hB.rk B x hx).mono ?_;have h1:wN (az e).ranks<=nc:=Nat.le_trans (jL e.claims) hnc;have:=Nat.mul_le_mul_right (K+(1+kS nc K)+1) h1;unfold kR;omega
  refine (ij hR (by unfold kR;omega) p.1).mono ?_;have:=Nat.mul_le_mul_right (kR nc K+1) hpn;omega
 refine (hBq.add ((c1.sub c2).div c3)).mono ?_;unfold jU;omega
noncomputable def gpR (l:List WT) (m:Rat):AV:= .tup [.agg (ai (enc (if a8 l m then cu l m else 0))),.one (.lit (.bool (decide (a8 l m))))]
def F56:=And.intro zS (And.intro CH (And.intro AZ (And.intro cD (And.intro Ev (dN)))))
theorem F57:type_of%F56:=F56
theorem zY (H:Hp) (ny s sc nn:Nat) (R0:WR) (l:List WT) (m r:Rat) (K Sm M A C Z:Nat) (h50:H 50=some ⟨s,200,4,1,.own 48 sc nn 3::ai (enc R0.rv)⟩) (h48:H 48=some ⟨sc,32,3,nn,aA cQ R0.cl⟩) (hR0:R0.cl.length=nn) (hbH:∀y B,H y=some B->y<7000) (hn:nn<=1000000) (hl:wOK K Sm l) (hin:∀t∈l,wIn nn t) (hM:qB M m) (hMb:M+l.length*(Sm+1)<=50000000000) (hr:qB A r) (hC:R0.B C) (hZ:K+(A+Sm)<=Z) (hB:C+wN l*(Z+1)<=50000000000) (hZb:Z<=40000000000):cT prog 145 [.one (.sh 4 l.length (aA cWT l)),.agg (ai (enc m)),.agg (ai (enc r)),.one (.ptr 50 s 0)] H ny
  (fun res H' _=>res= .tup []/\∀y B',bZ H [(50,⟨s,200,4,1,.own 48 sc nn 3::ai (enc (cO l m r R0).rv)⟩),(48,⟨sc,32,3,nn,aA cQ (cO l m r R0).cl⟩)] y=some B'->H' y=some B'):=by
 have hfl:=kc l m;have hll:=hl.1;refine cF 7000 func145 rfl (by decide) (N:=27) rfl (by simp) (Rl:=[]) rfl fun en k0=>?_
 refine awN ?_;simp only [F57,seval,ai];have hA:=tR l m K Sm M hl hM (by omega) (by omega);simp only [spR,ai] at hA;refine awN ?_;simp only [F57,seval,ab aw];refine ⟨_,hA,(by first|rfl|simp [aU,aD,al,ax,A1.cells,ab aw]),?_⟩;try simp only [ak,F57,seval]
 by_cases hk:((aG l m).1:Int)<(l.length:Int)
 ·skip;refine awN ?_;simp only [F57,seval,hk];refine awT ?_;have hkl:(aG l m).1<l.length:=by omega
  have hat:=aO kl l (aG l m).1 hkl;obtain ⟨t,ht⟩:∃t,l[(aG l m).1]=t:=⟨_,rfl⟩;rw [ht] at hat;have htm:t∈l:=ht▸List.getElem_mem hkl;have hgt:l.getD (aG l m).1 []=t:=by rw [List.getD_eq_getElem?_getD,List.getElem?_eq_getElem hkl,ht];rfl
  have hsz:=hl.2 t htm;have hwl:t.length<=wN l:=by have h8:=vI l _ hkl;rw [ht] at h8;omega
  have hm2:t.length*(Z+1)<=wN l*(Z+1):=Nat.mul_le_mul_right _ hwl;have hfw:=hfl;repeat' first|apply awS|apply awB
  refine cb [26] (by kernel_rfl) (.cons 0 true (.cons 1 true (.cons 2 true (.cons 3 true (.cons 4 true (.cons 5 true (.cons 6 false .nil))))))) (by kernel_rfl) (gs:=[none,none,none,none,none,none,none]) (by kernel_rfl) (by simp only [zT,seval];rfl) (by decide) ?_;simp only [F57,seval,ai,hk,hat,cWT,(id SD)];repeat refine ob ?_
  refine ⟨_,zD _ _ s sc nn R0 t r K A Sm C Z (by simp only [aB];(repeat rw [if_neg (by decide)]);exact h50) (by simp only [aB];(repeat rw [if_neg (by decide)]);exact h48) hR0 (fun y B h=>?_) (by omega) hsz.1 (hin _ htm) hr hsz.2.1 hsz.2.2 hC (by omega) (by omega) (by omega),?_⟩
  ·simp only [aB] at h;repeat (split at h;· omega)
   have h9:=hbH y B h;omega
  rintro res H' nx' ⟨rfl,hW⟩;simp only [F57,seval,(id SD)];try refine ⟨rfl,?_⟩
  intro y B h;have hpay:cO l m r R0=eK (r/av t) t R0:=by unfold cO dU;rw [if_pos hkl,hgt]
  rw [hpay] at h;refine hW y B ?_;try simp only [bZ,aB] at h ⊢
  by_cases hy:y=50
  ·subst hy;first|exact h|(simpa [h50,ai] using h)
  simp only [hy,if_false] at h ⊢;by_cases hy2:y=48
  ·subst hy2;first|exact h|(simpa [h48] using h)
  simp only [hy2,if_false] at h ⊢;have h9:=hbH y B h;repeat rw [if_neg (by omega)]
  exact h
 skip;refine awN ?_;simp only [F57,seval,hk];refine awF ?_;refine awK ?_;simp only [F57,seval];try refine ⟨rfl,?_⟩
 intro y B h;have hpay:cO l m r R0=R0:=by unfold cO dU;rw [if_neg (by omega)]
 rw [hpay] at h;try simp only [bZ,aB] at h ⊢
 by_cases hy:y=50
 ·subst hy;first|exact h|(simpa [h50,ai] using h)
 simp only [hy,if_false] at h ⊢;by_cases hy2:y=48
 ·subst hy2;first|exact h|(simpa [h48] using h)
 simp only [hy2,if_false] at h ⊢;have h9:=hbH y B h;repeat rw [if_neg (by omega)]
 exact h
def F58:=And.intro zS (And.intro CH (And.intro AZ (And.intro Eu (And.intro cD (And.intro gH (dN))))))
theorem F59:type_of%F58:=F58
theorem Fs (l:List WT) (m:Rat) (K Sm M:Nat) (hl:wOK K Sm l) (hM:qB M m) (hS:Sm<=40000000000) (hB:M+l.length*(Sm+1)<=50000000000):aR prog 172 [.one (.sh 4 l.length (aA cWT l)),.agg (ai (enc m))] (gpR l m):=by
 have hfl:=kc l m;have hll:=hl.1;refine aP func172 rfl (by decide) (N:=26) rfl (by simp) (R:=[.cell 4 32,.tmp 5]) rfl fun en k0=>?_
 refine awN ?_;simp only [F59,seval,ai];have hA:=tR l m K Sm M hl hM (by omega) (by omega);simp only [spR,ai] at hA;refine awN ?_;simp only [F59,seval,ab aw];refine ⟨_,hA,(by first|rfl|simp [aU,aD,al,ax,A1.cells,ab aw]),?_⟩;try simp only [ak,F59,seval]
 by_cases hk:((aG l m).1:Int)=(l.length:Int)
 ·refine awN ?_;simp only [F59,seval,hk];refine awT ?_;refine awN ?_;simp only [F59,seval];refine awX ?_;have ho:¬a8 l m:=by unfold a8;omega
  simp only [F59,seval];simp [gpR,ho,bf]
 refine awN ?_;simp only [F59,seval,hk];refine awF ?_;refine awK ?_;simp only [F59,seval];have hkl:(aG l m).1<l.length:=by omega
 have hat:=aO kl l (aG l m).1 hkl;obtain ⟨t,ht⟩:∃t,l[(aG l m).1]=t:=⟨_,rfl⟩;rw [ht] at hat;have htm:t∈l:=ht▸List.getElem_mem hkl;have hgt:l.getD (aG l m).1 []=t:=by rw [List.getD_eq_getElem?_getD,List.getElem?_eq_getElem hkl,ht];rfl
 have hsz:=hl.2 t htm;have hkI:((aG l m).1:Int)<(l.length:Int):=by omega
 have hB4:=zC (av t) (aG l m).2 _ _ hsz.2.1 (jE l m M (fun t ht=>(hl.2 t ht).2.1) hM) (by omega) (by omega);simp only [ai] at hB4;refine awD (scT 0 6 (scq [12,14,17] .nil)) [0,0,0,0,0,0,0,0,0] ?_;simp only [F59,seval,ai,hat,cWT,hkI];repeat refine ob ?_
 refine ⟨_,hB4,(by first|rfl|simp [aU,aD,al,ax,A1.cells,ab aw]),?_⟩;try simp only [ak,F59,seval]
 refine awX ?_;have ho:a8 l m:=hkl;have hgv:cu l m=av t-(aG l m).2:=by unfold cu;rw [hgt]
 simp only [F59,seval];simp [gpR,ho,hgv,ai]
def F60:=And.intro zS (And.intro ll (And.intro Hz (And.intro Ey (And.intro AY (And.intro nX (And.intro cD (And.intro jz (And.intro xG (And.intro Gm (And.intro dN (Gn)))))))))))
theorem F61:type_of%F60:=F60
theorem zZ (L:WL) (m:Rat) (K Sm M Z:Nat) (hn:L.count<=1000000) (hl:wOK K Sm L.ranks) (hin:∀t∈L.ranks,wIn L.count t) (hM:qB M m) (hMb:M+L.ranks.length*(Sm+1)<=50000000000) (hZ:K+(1+Sm)<=Z) (hB:1+wN L.ranks*(Z+1)<=50000000000) (hZb:Z<=40000000000):aR prog 144 [.agg (bL L),.agg (ai (enc m))] (.val (.one (.sh 3 L.count (aA cQ (ba L m))))):=by
 refine aP func144 rfl (by decide) (N:=21) rfl (by simp) (R:=[.tmp 4]) rfl fun en k0=>?_
 refine awN ?_;simp only [F61,seval,ai,bL];refine C5 40 ?_;dsimp only;refine awN ?_;simp only [F61,seval,ja];repeat refine ob ?_
 refine cm (dz 50 (.own 48 2 L.count 3::ai (enc 0)) (by rfl) (by show (4:Nat)≠0;decide) (by rfl) (fun κ vs h=>m6 _ h)) ?_;simp only [F61,seval];have h1:=Ik 1 (by decide) (by decide);rw [show (((1:Int):Rat))=1 by rfl] at h1;simp only [ai] at h1;repeat' first|apply awS|apply awB
 refine cb [16] (by kernel_rfl) (.cons 0 true (.cons 1 true (.cons 2 true (.cons 4 true (.cons 3 false (.cons 5 false .nil)))))) (by kernel_rfl) (gs:=[none,none,none,none,none,none]) (by kernel_rfl) (by simp only [zT,seval];rfl) (by decide) ?_;simp only [F61,seval,ai,(id SD)];refine ⟨_,h1,rfl,?_⟩;try simp only [ak,F61,seval,ai,bL,ab aw]
 repeat refine ob ?_
 refine ⟨_,zY _ _ 3 2 L.count ⟨List.replicate L.count 0,0⟩ L.ranks m 1 K Sm M 1 1 Z (by rfl) (by rfl) (by simp) (fun y B h=>?_) hn hl hin hM hMb ti (fm _) (by omega) hB hZb,?_⟩
 ·simp only [aB] at h;repeat (split at h;· omega)
  cases h
 rintro res H' nx' ⟨rfl,hW⟩;simp only [F61,seval,(id SD)];refine cg hW ?_;simp only [F61,seval];refine dp 48 50 0 (by rfl) (by rfl) (by rfl) (by decide) (by show (3:Nat)≠0;decide) (by show (4:Nat)≠0;decide) rfl ?_;simp only [F61,seval];refine awN ?_;simp only [F61,seval,ai];refine awX ?_;(first|(simp only [F61,seval,ab ap,ba];done)|(simp only [F61,seval,ai];first|(simp [ab ap,ba];done)))
end Go.Proofs.YtokmkopihhnggaaGreatDoor
