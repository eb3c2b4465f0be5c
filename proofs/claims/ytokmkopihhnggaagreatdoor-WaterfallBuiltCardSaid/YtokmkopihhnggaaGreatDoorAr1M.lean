/- The arithmetic of both sides as contracts on plain data. -/
import Derived.Test.YtokmkopihhnggaaGreatDoorRw5M
import Derived.Test.YtokmkopihhnggaaGreatDoorQ3M
import Derived.Test.YtokmkopihhnggaaGreatDoorWf6M
set_option linter.unusedVariables false
set_option maxHeartbeats 4000000
set_option linter.unusedSimpArgs false
set_option linter.defProp false
namespace Go.Proofs.YtokmkopihhnggaaGreatDoor
open Go Go.RowKit Go.Proofs.Tryz
theorem FZ (r1 r2:GRat) (m n:Nat) (h1:sB m r1) (h2:sB n r2) (hm:m<=100000000000) (hn:n<=100000000000) (hm0:0<m) (hn0:0<n):aU prog 31 [.agg (ai r1),.agg (ai r2)] (.val (.agg (ai (enc (qOf r1+qOf r2))))):=
 bf (b8 func31 (by decide) (by kernel_rfl)) [aE r1,aE r2] (aE (enc (qOf r1+qOf r2))) fun w=>Dq r1 r2 m n w h1 h2 hm hn hm0 hn0
theorem Ln (r1 r2:GRat) (m n:Nat) (h1:sB m r1) (h2:sB n r2) (hm:m<=100000000000) (hn:n<=100000000000) (hm0:0<m) (hn0:0<n):aU prog 39 [.agg (ai r1),.agg (ai r2)] (.val (.agg (ai (enc (qOf r1-qOf r2))))):=
 bf (b8 func39 (by decide) (by kernel_rfl)) [aE r1,aE r2] (aE (enc (qOf r1-qOf r2))) fun w=>rS r1 r2 m n w h1 h2 hm hn hm0 hn0
theorem Lo (r1 r2:GRat) (m n:Nat) (h1:sB m r1) (h2:sB n r2) (hm:m<=100000000000) (hn:n<=100000000000) (hm0:0<m) (hn0:0<n):aU prog 38 [.agg (ai r1),.agg (ai r2)] (.val (.agg (ai (enc (qOf r1*qOf r2))))):=
 bf (b8 func38 (by decide) (by kernel_rfl)) [aE r1,aE r2] (aE (enc (qOf r1*qOf r2))) fun w=>rT r1 r2 m n w h1 h2 hm hn hm0 hn0
theorem Ki (r1 r2:GRat) (m n:Nat) (h1:sB m r1) (h2:sB n r2) (hm:m<=100000000000) (hn:n<=100000000000) (hm0:0<m) (hn0:0<n):aU prog 36 [.agg (ai r1),.agg (ai r2)] (.val (.agg (ai (enc (bT (qOf r1) (qOf r2)))))):=
 bf (b8 func36 (by decide) (by kernel_rfl)) [aE r1,aE r2] (aE (enc (bT (qOf r1) (qOf r2)))) fun w=>Ds r1 r2 m n w h1 h2 hm hn hm0 hn0
theorem Lp (r1 r2:GRat) (m n:Nat) (h1:sB m r1) (h2:sB n r2) (hm:m<=100000000000) (hn:n<=100000000000) (hm0:0<m) (hn0:0<n):aU prog 133 [.agg (ai r1),.agg (ai r2)] (.val (.agg (ai (enc (oX (qOf r1) (qOf r2)))))):=
 bf (b8 func133 (by decide) (by kernel_rfl)) [aE r1,aE r2] (aE (enc (oX (qOf r1) (qOf r2)))) fun w=>Dr r1 r2 m n w h1 h2 hm hn hm0 hn0
theorem Kj (n:Int) (h0: -9223372036854775808<=n) (h1:n<=9223372036854775807):aU prog 52 [.one (.lit (.int .i64 n))] (.val (.agg (ai (enc (n:Rat))))):=
 bf (b8 func52 (by decide) (by kernel_rfl)) [.int .i64 n] (aE (enc (n:Rat))) fun w=>Dk n w h0 h1
theorem mV (p q:Rat) (m n:Nat) (hp:qB m p) (hq:qB n q) (hm:m<=100000000000) (hn:n<=100000000000):aU prog 150 [.agg (ai (enc p)),.agg (ai (enc q))] (.val (.agg (ai (enc (p+q))))):=
 bf (b8 func150 (by decide) (by kernel_rfl)) [aE (enc p),aE (enc q)] (aE (enc (p+q))) fun w=>sA p q m n w hp hq hm hn
theorem qA (p q:Rat) (m n:Nat) (hp:qB m p) (hq:qB n q) (hm:m<=100000000000) (hn:n<=100000000000):aU prog 224 [.agg (ai (enc p)),.agg (ai (enc q))] (.val (.agg (ai (enc (p-q))))):=
 bf (b8 func224 (by decide) (by kernel_rfl)) [aE (enc p),aE (enc q)] (aE (enc (p-q))) fun w=>pH p q m n w hp hq hm hn
theorem Ax (p q:Rat) (m n:Nat) (hp:qB m p) (hq:qB n q) (hm:m<=100000000000) (hn:n<=100000000000):aU prog 221 [.agg (ai (enc p)),.agg (ai (enc q))] (one (.bool (decide (p<q)))):=
 bf (b8 func221 (by decide) (by kernel_rfl)) [aE (enc p),aE (enc q)] (.bool (decide (p<q))) fun w=>sC p q m n w hp hq hm hn
theorem Ga (p q:Rat) (m n:Nat) (hp:qB m p) (hq:qB n q) (hm:m<=100000000000) (hn:n<=100000000000):aU prog 220 [.agg (ai (enc p)),.agg (ai (enc q))] (.val (.agg (ai (enc (bT p q))))):=
 bf (b8 func220 (by decide) (by kernel_rfl)) [aE (enc p),aE (enc q)] (aE (enc (bT p q))) fun w=>vF p q m n w hp hq hm hn
theorem Lq (r:GRat) (h1:r.num.size<=500000000000) (h2:r.den.size<=500000000000):aU prog 116 [.agg (ai r)] (.val (.agg (ai (enc (qOf r))))):=
 bf (b8 func116 (by decide) (by kernel_rfl)) [aE r] (aE (enc (qOf r))) fun w=>pM r w h1 h2
abbrev WP:=Int×Rat
abbrev WT:=List WP
def au:WT->Rat
 |[]=>0
 |p::t=>p.2+au t
theorem eb:∀(t:WT) (p:WP),au (t++[p])=au t+p.2
 |[],p=>by simp only [List.nil_append,au];grind
 |x::t,p=>by simp only [List.cons_append,au,eb t p];grind
def aJ:List WT->Rat->Nat×Rat
 |[],m=>(0,m)
 |t::l,m=>if m<au t then (0,m) else ((aJ l (m-au t)).1+1,(aJ l (m-au t)).2)
theorem ll:∀(l:List WT) (m:Rat),(aJ l m).1<=l.length
 |[],_=>Nat.le_refl _
 |t::l,m=>by
  simp only [aJ];split
  ·exact Nat.zero_le _
  have:=ll l (m-au t);simpa using this
theorem qC:∀(l:List WT) (m:Rat),0<=m->0<=(aJ l m).2/\∀h:(aJ l m).1<l.length,(aJ l m).2<au l[(aJ l m).1]
 |[],m,h=>⟨h,fun h=>absurd h (by simp)⟩
 |t::l,m,h=>by
  by_cases hm:m<au t
  ·simp only [aJ,hm,if_true];exact ⟨h,fun _=>hm⟩
  have h1:=qC l (m-au t) (by grind);simp only [aJ,hm,if_false];refine ⟨h1.1,fun h2=>?_⟩;have h3:=h1.2 (by simpa using h2);simpa using h3
structure WR where
 cl:List Rat
 rv:Rat
def WR.add (R:WR) (c:Int) (a:Rat):WR:=if c= -1 then ⟨R.cl,R.rv+a⟩ else ⟨R.cl.set c.toNat (R.cl.getD c.toNat 0+a),R.rv⟩
def e7 (q:Rat):WT->WR->WR
 |[],R=>R
 |p::t,R=>e7 q t (R.add p.1 (p.2*q))
def iE:WT->WR->WR
 |[],R=>R
 |p::t,R=>iE t (R.add p.1 p.2)
def f5:List WT->WR->WR
 |[],R=>R
 |t::l,R=>f5 l (iE t R)
def ef (l:List WT) (k:Nat) (a:Rat) (R:WR):WR:=if k<l.length then e7 (a/au (l.getD k [])) (l.getD k []) R else R
def io (l:List WT) (m:Rat) (R:WR):WR:=ef l (aJ l m).1 (aJ l m).2 (f5 (l.take (aJ l m).1) R)
theorem cb (R:WR) (c:Int) (a:Rat):(R.add c a).cl.length=R.cl.length:=by
 unfold WR.add;split<;>simp
theorem wH (q:Rat):∀(t:WT) (R:WR),(e7 q t R).cl.length=R.cl.length
 |[],_=>rfl
 |p::t,R=>by rw [e7,wH q t,cb]
theorem nP:∀(t:WT) (R:WR),(iE t R).cl.length=R.cl.length
 |[],_=>rfl
 |p::t,R=>by rw [iE,nP t,cb]
theorem qD:∀(l:List WT) (R:WR),(f5 l R).cl.length=R.cl.length
 |[],_=>rfl
 |t::l,R=>by rw [f5,qD l,nP]
theorem qE (l:List WT) (k:Nat) (a:Rat) (R:WR):(ef l k a R).cl.length=R.cl.length:=by
 unfold ef;split
 ·exact wH _ _ _
 rfl
theorem mW (l:List WT) (m:Rat) (R:WR):(io l m R).cl.length=R.cl.length:=by
 unfold io;rw [qE,qD]
def wN:List WT->Nat
 |[]=>0
 |t::l=>t.length+wN l
theorem nQ:∀(l m:List WT),wN (l++m)=wN l+wN m
 |[],m=>by simp [wN]
 |t::l,m=>by simp only [List.cons_append,wN,nQ l m];omega
theorem lm {K:Nat}:∀(t:WT),(∀p∈t,qB K p.2)->qB (1+t.length*(K+1)) (au t)
 |[],_=>by simpa [au] using ce
 |p::t,h=>by
  have h1:=lm t fun x hx=>h x (by simp [hx])
  have h2:=(h p (by simp)).add h1;refine h2.mono ?_;simp only [List.length_cons,Nat.add_mul,Nat.one_mul];omega
def WR.B (n:Nat) (R:WR):Prop:=(∀x∈R.cl,qB n x)/\qB n R.rv
theorem WR.B.mono {m n:Nat} {R:WR} (h:R.B m) (hm:m<=n):R.B n:=⟨fun x hx=>(h.1 x hx).mono hm,h.2.mono hm⟩
theorem pe {n:Nat} {l:List Rat} (h:∀x∈l,qB n x) (hn:0<n) (i:Nat):qB n (l.getD i 0):=by
 rw [List.getD_eq_getElem?_getD];cases hx:l[i]? with
 |none=>exact ce.mono hn
 |some e=>exact h e (List.mem_of_getElem? hx)
theorem WR.B.pos {n:Nat} {R:WR} (h:R.B n):0<n:=h.2.pos
theorem eU {n z:Nat} {R:WR} (h:R.B n) (c:Int) {a:Rat} (ha:qB z a):(R.add c a).B (n+(z+1)):=by
 unfold WR.add;have h0:=h.pos;split
 ·exact ⟨fun x hx=>(h.1 x hx).mono (by omega),(h.2.add ha).mono (by omega)⟩
 refine ⟨fun x hx=>?_,h.2.mono (by omega)⟩;rcases List.mem_or_eq_of_mem_set hx with h1|rfl
 ·exact (h.1 x h1).mono (by omega)
 exact ((pe h.1 h0 _).add ha).mono (by omega)
theorem yO {z:Nat} (q:Rat):∀(t:WT) (R:WR) (n:Nat),R.B n->(∀p∈t,qB z (p.2*q))->(e7 q t R).B (n+t.length*(z+1))
 |[],R,n,h,_=>by simpa [e7] using h
 |p::t,R,n,h,hz=>by
  have h1:=yO q t _ _ (eU h p.1 (hz p (by simp))) fun x hx=>hz x (by simp [hx])
  refine h1.mono ?_;simp only [List.length_cons,Nat.add_mul,Nat.one_mul];omega
theorem Ay {z:Nat}:∀(t:WT) (R:WR) (n:Nat),R.B n->(∀p∈t,qB z p.2)->(iE t R).B (n+t.length*(z+1))
 |[],R,n,h,_=>by simpa [iE] using h
 |p::t,R,n,h,hz=>by
  have h1:=Ay t _ _ (eU h p.1 (hz p (by simp))) fun x hx=>hz x (by simp [hx])
  refine h1.mono ?_;simp only [List.length_cons,Nat.add_mul,Nat.one_mul];omega
theorem wI {z:Nat}:∀(l:List WT) (R:WR) (n:Nat),R.B n->(∀t∈l,∀p∈t,qB z p.2)->(f5 l R).B (n+wN l*(z+1))
 |[],R,n,h,_=>by simpa [f5,wN] using h
 |t::l,R,n,h,hz=>by
  have h1:=wI l _ _ (Ay t R n h (hz t (by simp))) fun x hx=>hz x (by simp [hx])
  refine h1.mono ?_;simp only [wN,Nat.add_mul];omega
theorem kw {S:Nat}:∀(l:List WT) (m:Rat) (M:Nat),(∀t∈l,qB S (au t))->qB M m->qB (M+l.length*(S+1)) (aJ l m).2
 |[],m,M,_,h=>by simpa [aJ] using h
 |t::l,m,M,hS,h=>by
  simp only [aJ];split
  ·exact h.mono (by omega)
  have h1:=kw l (m-au t) (M+S+1) (fun x hx=>hS x (by simp [hx])) (h.sub (hS t (by simp)));refine h1.mono ?_;simp only [List.length_cons,Nat.add_mul,Nat.one_mul];omega
theorem qB.inv {n:Nat} {q:Rat} (h:qB n q):qB n q⁻¹:=by
 have hp:=h.pos;by_cases h0:q=0
 ·subst h0;rw [Rat.inv_zero];exact h
 have h1:q⁻¹=mkRat (sg (bi q) q.den) q.num.natAbs:=by
  have h2:=zI (p:=1) h0;rw [Rat.div_def,Rat.one_mul] at h2;rw [h2];have e1:bi 1=false:=by unfold bi;simp
  rw [e1];simp
 rw [h1];refine mG ?_ h.1 hp;rw [fV];exact h.2
theorem qB.div {m n:Nat} {p q:Rat} (hp:qB m p) (hq:qB n q):qB (m+n) (p/q):=by
 rw [Rat.div_def];exact hp.mul hq.inv
def wOK (K S:Nat) (l:List WT):Prop:=l.length<=1000/\∀t∈l,t.length<=1000/\qB S (au t)/\∀p∈t,qB K p.2
theorem Az (l:List WT) (k:Nat) (h:k<l.length):wN (l.take k)+(l[k]).length<=wN l:=by
 have h1:=nQ (l.take k) (l.drop k);rw [List.take_append_drop,List.drop_eq_getElem_cons h] at h1;simp only [wN] at h1;omega
theorem Ed {K S M n:Nat} {l:List WT} (h:wOK K S l) {m:Rat} (hm:qB M m) {R:WR} (hR:R.B n):(io l m R).B (n+wN l*(K+(M+l.length*(S+1))+S+1)):=by
 have h1:=kw l m M (fun t ht=>(h.2 t ht).2.1) hm;have h2:=wI (l.take (aJ l m).1) R n hR fun t ht=>(h.2 t (List.mem_of_mem_take ht)).2.2
 have h3:wN (l.take (aJ l m).1)<=wN l:=by
  have:=nQ (l.take (aJ l m).1) (l.drop (aJ l m).1);rw [List.take_append_drop] at this;omega
 unfold io ef;generalize hZ:K+(M+l.length*(S+1))+S=Z at *
 have h4:wN (l.take (aJ l m).1)*(K+1)<=wN (l.take (aJ l m).1)*(Z+1):=Nat.mul_le_mul_left _ (by omega);split
 ·rename_i hk;have hN:=Az l _ hk;have hgd:l.getD (aJ l m).1 []=l[(aJ l m).1]:=by rw [List.getD_eq_getElem?_getD,List.getElem?_eq_getElem hk];rfl
  have hmem:l.getD (aJ l m).1 []∈l:=by rw [hgd];exact List.getElem_mem hk
  rw [←hgd] at hN;have h5:=h.2 _ hmem;generalize l.getD (aJ l m).1 []=t at *
  have h6:=yO (z:=Z) ((aJ l m).2/au t) t _ _ h2 fun p hp=>((h5.2.2 p hp).mul (h1.div h5.2.1)).mono (by omega)
  have h7:(wN (l.take (aJ l m).1)+t.length)*(Z+1)<=wN l*(Z+1):=Nat.mul_le_mul_right _ hN;rw [Nat.add_mul] at h7;exact h6.mono (by omega)
 have h8:wN (l.take (aJ l m).1)*(Z+1)<=wN l*(Z+1):=Nat.mul_le_mul_right _ h3;exact h2.mono (by omega)
noncomputable def wRk (r:Int):List GClaim->Nat->WT
 |[],_=>[]
 |c::l,i=>if c.rank=r then ((i:Int),qOf c.amount)::wRk r l (i+1) else wRk r l (i+1)
noncomputable def aF (cs:List GClaim):List WT:=(List.range 8).map fun r:Nat=>wRk (r:Int) cs 0
noncomputable def cx:List GClaim->Rat
 |[]=>0
 |c::l=>qOf c.amount+cx l
noncomputable def cV (rest:List Rat) (x:GPart):List Rat×Rat:=
 if x.claim= -1 then (rest,qOf x.cap) else
  (rest.set x.claim.toNat (rest.getD x.claim.toNat 0-if x.capped=true then bT (rest.getD x.claim.toNat 0) (qOf x.cap) else rest.getD x.claim.toNat 0),
   if x.capped=true then bT (rest.getD x.claim.toNat 0) (qOf x.cap) else rest.getD x.claim.toNat 0)
noncomputable def cy:List GPart->List Rat->List Rat×WT
 |[],rest=>(rest,[])
 |x::l,rest=>((cy l (cV rest x).1).1,(x.claim,(cV rest x).2)::(cy l (cV rest x).1).2)
noncomputable def bD:List (List GPart)->List Rat->List Rat×List WT
 |[],rest=>(rest,[])
 |t::a,rest=>((bD a (cy t rest).1).1,(cy t rest).2::(bD a (cy t rest).1).2)
def fa (M:List Int) (rest:List Rat):WT:=M.map fun i=>(i,rest.getD i.toNat 0)
abbrev ci:=List Int×List WT
noncomputable def ba (cs:List GClaim) (a:bP):ci:=
 (mem a,(bD a (cs.map fun c=>qOf c.amount)).2++[fa (mem a) (bD a (cs.map fun c=>qOf c.amount)).1])
structure WL where
 count:Nat
 ranks:List WT
 pools:List ci
 total:Rat
noncomputable def ay (e:GEst):WL:=⟨e.claims.length,aF e.claims,e.agrs.map (ba e.claims),cx e.claims⟩
def aX (L:WL) (m:Rat):List Rat:=(io L.ranks m ⟨List.replicate L.count 0,0⟩).cl
def fP:List Int->List Rat->List Rat
 |[],l=>l
 |i::M,l=>fP M (l.set i.toNat 0)
def cO:List ci->List Rat->List Rat
 |[],l=>l
 |p::ps,l=>cO ps (fP p.1 l)
def aQ (g:List Rat):List Int->Rat
 |[]=>0
 |i::M=>g.getD i.toNat 0+aQ g M
def gJ (g:List Rat):List ci->WR->WR
 |[],R=>R
 |p::ps,R=>gJ g ps (io p.2 (aQ g p.1) R)
def fo (L:WL) (m:Rat):WR:=gJ (aX L m) L.pools ⟨cO L.pools (aX L m),0⟩
theorem nR:∀(M:List Int) (l:List Rat),(fP M l).length=l.length
 |[],_=>rfl
 |i::M,l=>by rw [fP,nR M,List.length_set]
theorem ee:∀(ps:List ci) (l:List Rat),(cO ps l).length=l.length
 |[],_=>rfl
 |p::ps,l=>by rw [cO,ee ps,nR]
theorem iq (L:WL) (m:Rat):(aX L m).length=L.count:=by
 unfold aX;rw [mW,List.length_replicate]
theorem mh (g:List Rat):∀(ps:List ci) (R:WR),(gJ g ps R).cl.length=R.cl.length
 |[],_=>rfl
 |p::ps,R=>by rw [gJ,mh g ps,mW]
theorem qF (L:WL) (m:Rat):(fo L m).cl.length=L.count:=by
 unfold fo;rw [mh,ee,iq]
def frP (c:Int):List GPart->Bool
 |[]=>true
 |p::l=>if p.claim=c then false else frP c l
def frT (c:Int):List (List GPart)->Bool
 |[]=>true
 |t::l=>if frP c t=true then frT c l else false
def frA (c:Int):List bP->Bool
 |[]=>true
 |a::l=>if frT c a=true then frA c l else false
def tkL (i c:Int):List Leg->Bool
 |[]=>false
 |x::l=>if x.1=i then (if x.2=c then true else tkL i c l) else tkL i c l
def tkD (i c:Int):List GDebt->Bool
 |[]=>false
 |d::l=>if tkL i c d.legs=true then true else tkD i c l
def F24:=And.intro zS (And.intro tf1 (And.intro B6 (And.intro tf6 (And.intro tf2 (And.intro ql (And.intro tf0 (And.intro tf8 (And.intro qm (And.intro tf9 (And.intro yG (And.intro qn (And.intro tf3 (And.intro wk (And.intro yH (And.intro jc (And.intro yJ (tf5)))))))))))))))))
theorem F25:type_of%F24:=F24
theorem Ee (e:GEst) (c:Int) (hn:e.agrs.length<=1000000000000) (he:∀a∈e.agrs,a.length<=1000000000000/\∀t∈a,t.length<=1000000000000):aU prog 99 [.agg (aI e),.one (.lit (.int .i64 c))] (one (.bool (frA c e.agrs))):=by
 refine aT func99 rfl (by decide) (N:=38) rfl (by simp) (R:=[.tmp 4]) rfl fun en k0=>?_
 refine awN ?_;simp only [F25,seval,aI];refine awN ?_;simp only [F25,seval];refine aS [1,2,12,13,14] [2] ?_;try simp only [ak,F25,seval]
 repeat' first|apply awS|apply awB
 refine aM (fun n st=>∃k0 nx,k0<=e.agrs.length/\n=e.agrs.length-k0/\frA c (e.agrs.drop k0)=frA c e.agrs/\st=⟨mkT [(1,one (.int .i64 c)),(2,.val (.one (.ptr 2 0 0))),(12,.val (.one (.sh 1 e.agrs.length (ar bz e.agrs)))),(13,one (.int .i64 e.agrs.length)),(14,one (.int .i64 k0))],mkH [(2,⟨0,36,5,1,aI e⟩)],nx,0⟩) (e.agrs.length) ⟨0,_,by omega,by omega,by rfl,rfl⟩ ?_;rintro n0 st ⟨k0,nx0,hk0,rfl,hL0,rfl⟩;by_cases hlt0:k0<e.agrs.length
 ·skip;have hI0:(k0:Int)<(e.agrs.length:Int):=by omega
  have hat0:=aO jd e.agrs k0 hlt0;try rw [Nat.mul_one] at hat0
  rw [List.drop_eq_getElem_cons hlt0] at hL0;have hA:=he _ (List.getElem_mem hlt0);generalize e.agrs[k0]=a at *
  simp only [frA] at hL0;refine awN ?_;simp only [F25,seval,aI,hI0];refine awT ?_;refine awK ?_;simp only [F25,seval];refine awN ?_;simp only [F25,seval,hI0,hat0,bz];repeat refine ob ?_
  refine awN ?_;simp only [F25,seval];refine aS [1,2,12,13,14,19,20,21] [2] ?_;try simp only [ak,F25,seval]
  repeat' first|apply awS|apply awB
  refine aM (fun n st=>∃k1 nx,k1<=a.length/\n=a.length-k1/\frT c (a.drop k1)=frT c a/\st=⟨mkT [(1,one (.int .i64 c)),(2,.val (.one (.ptr 2 0 0))),(12,.val (.one (.sh 1 e.agrs.length (ar bz e.agrs)))),(13,one (.int .i64 e.agrs.length)),(14,one (.int .i64 k0)),(19,.val (.one (.sh 1 a.length (ar bF a)))),(20,one (.int .i64 a.length)),(21,one (.int .i64 k1))],mkH [(2,⟨0,36,5,1,aI e⟩)],nx,0⟩) (a.length) ⟨0,_,by omega,by omega,by rfl,rfl⟩ ?_;rintro n1 st ⟨k1,nx1,hk1,rfl,hL1,rfl⟩;by_cases hlt1:k1<a.length
  ·skip;have hI1:(k1:Int)<(a.length:Int):=by omega
   have hat1:=aO eP a k1 hlt1;try rw [Nat.mul_one] at hat1
   rw [List.drop_eq_getElem_cons hlt1] at hL1;have hn3:=hA.2 _ (List.getElem_mem hlt1);generalize a[k1]=t at *
   simp only [frT] at hL1;refine awN ?_;simp only [F25,seval,aI,hI1];refine awT ?_;refine awK ?_;simp only [F25,seval];refine awN ?_;simp only [F25,seval,hI1,hat1,bF];repeat refine ob ?_
   refine awN ?_;simp only [F25,seval];refine aS [1,2,12,13,14,19,20,21,25,26,27] [2] ?_;try simp only [ak,F25,seval]
   repeat' first|apply awS|apply awB
   refine aM (fun n st=>∃k2 nx,k2<=t.length/\n=t.length-k2/\frP c (t.drop k2)=frP c t/\st=⟨mkT [(1,one (.int .i64 c)),(2,.val (.one (.ptr 2 0 0))),(12,.val (.one (.sh 1 e.agrs.length (ar bz e.agrs)))),(13,one (.int .i64 e.agrs.length)),(14,one (.int .i64 k0)),(19,.val (.one (.sh 1 a.length (ar bF a)))),(20,one (.int .i64 a.length)),(21,one (.int .i64 k1)),(25,.val (.one (.sh 5 t.length (ar bA t)))),(26,one (.int .i64 t.length)),(27,one (.int .i64 k2))],mkH [(2,⟨0,36,5,1,aI e⟩)],nx,0⟩) (t.length) ⟨0,_,by omega,by omega,by rfl,rfl⟩ ?_;rintro n2 st ⟨k2,nx2,hk2,rfl,hL2,rfl⟩;by_cases hlt2:k2<t.length
   ·skip;have hI2:(k2:Int)<(t.length:Int):=by omega
    have hat2:=aO fZ t k2 hlt2;try rw [Nat.mul_one] at hat2
    rw [List.drop_eq_getElem_cons hlt2] at hL2;generalize t[k2]=p at *
    simp only [frP] at hL2;refine awN ?_;simp only [F25,seval,aI,hI2];refine awT ?_;refine awK ?_;simp only [F25,seval];refine awN ?_;simp only [F25,seval,hI2,hat2,bA];repeat refine ob ?_
    by_cases h1:p.claim=c
    ·skip;refine awN ?_;simp only [F25,seval,h1];refine awT ?_;refine awN ?_;simp only [F25,seval];refine awX ?_;(first|(simp only [F25,seval,h1,←hL0,←hL1,←hL2];done)|(simp only [F25,seval,aI];first|(simp [hI0,hat0,hI1,hat1,hI2,hat2,h1,←hL0,←hL1,←hL2];done)|(simp [hI0,hat0,hI1,hat1,hI2,hat2,h1];done)|(rw [←hL0,←hL1,←hL2];simp [hI0,hat0,hI1,hat1,hI2,hat2,h1];done)))
    skip;refine awN ?_;simp only [F25,seval,h1];refine awF ?_;refine awK ?_;simp only [F25,seval];refine awN ?_;simp only [F25,seval];repeat refine ob ?_
    refine ⟨_,aC [1,2,12,13,14,19,20,21,25,26,27] [2],t.length-(k2+1),by omega,k2+1,?a15_nx,by omega,rfl,?i15_0,?st15⟩;case st15=>(simp only [F25,seval];first|rfl|(simp [Nat.add_mul];done))
    case i15_0=>(first|exact hL2|(rw [←hL2];simp only [reduceIte,h1];done)|(rw [←hL2];simp [hI0,hat0,hI1,hat1,hI2,hat2,h1];done)|(simp [hI0,hat0,hI1,hat1,hI2,hat2,h1] at hL2;simpa using hL2)|(rw [←hL2];simp [*];done))
   skip;obtain rfl:k2=t.length:=by omega
   have hI2:¬(t.length:Int)<(t.length:Int):=by omega
   rw [List.drop_length] at hL2;simp only [frP] at hL2;refine awN ?_;simp only [F25,seval,aI,hI2];refine awF ?_;refine awQ ?_;simp only [F25,seval];refine awN ?_;simp only [F25,seval];repeat refine ob ?_
   refine ⟨_,aC [1,2,12,13,14,19,20,21] [2],a.length-(k1+1),by omega,k1+1,?a18_nx,by omega,rfl,?i18_0,?st18⟩;case st18=>(simp only [F25,seval];first|rfl|(simp [Nat.add_mul];done))
   case i18_0=>(first|exact hL1|(rw [←hL1];simp [←hL2];done)|(rw [←hL1];simp only [reduceIte,hI0,hat0,hI1,hat1,hI2];done)|(rw [←hL1];simp [hI0,hat0,hI1,hat1,hI2];done)|(simp [hI0,hat0,hI1,hat1,hI2] at hL1;simpa using hL1)|(rw [←hL1];simp [*];done))
  skip;obtain rfl:k1=a.length:=by omega
  have hI1:¬(a.length:Int)<(a.length:Int):=by omega
  rw [List.drop_length] at hL1;simp only [frT] at hL1;refine awN ?_;simp only [F25,seval,aI,hI1];refine awF ?_;refine awQ ?_;simp only [F25,seval];refine awN ?_;simp only [F25,seval];repeat refine ob ?_
  refine ⟨_,aC [1,2,12,13,14] [2],e.agrs.length-(k0+1),by omega,k0+1,?a21_nx,by omega,rfl,?i21_0,?st21⟩;case st21=>(simp only [F25,seval];first|rfl|(simp [Nat.add_mul];done))
  case i21_0=>(first|exact hL0|(rw [←hL0];simp [←hL1];done)|(rw [←hL0];simp only [reduceIte,hI0,hat0,hI1];done)|(rw [←hL0];simp [hI0,hat0,hI1];done)|(simp [hI0,hat0,hI1] at hL0;simpa using hL0)|(rw [←hL0];simp [*];done))
 skip;obtain rfl:k0=e.agrs.length:=by omega
 have hI0:¬(e.agrs.length:Int)<(e.agrs.length:Int):=by omega
 rw [List.drop_length] at hL0;simp only [frA] at hL0;refine awN ?_;simp only [F25,seval,aI,hI0];refine awF ?_;refine awQ ?_;simp only [F25,seval];refine awN ?_;simp only [F25,seval];refine awX ?_;(first|(simp only [F25,seval,←hL0];done)|(simp only [F25,seval,aI];first|(simp [hI0,←hL0];done)|(simp [hI0];done)|(rw [←hL0];simp [hI0];done)))
def F26:=And.intro zS (And.intro K0 (And.intro JV (And.intro IC (And.intro JW (And.intro JX (And.intro ID (And.intro K1 (And.intro K3 (And.intro IE (And.intro JY (And.intro JZ (And.intro J0 (And.intro jc (And.intro J1 (J2)))))))))))))))
theorem F27:type_of%F26:=F26
theorem uB (g:GGrp) (i c:Int) (hn:g.debts.length<=1000000000000) (he:∀d∈g.debts,d.legs.length<=1000000000000):aU prog 100 [.agg (fN g),.one (.lit (.int .i64 i)),.one (.lit (.int .i64 c))] (one (.bool (tkD i c g.debts))):=by
 refine aT func100 rfl (by decide) (N:=37) rfl (by simp) (R:=[.tmp 6]) rfl fun en k0=>?_
 refine awN ?_;simp only [F27,seval,fN];refine awN ?_;simp only [F27,seval];refine aS [1,2,3,12,13,14] [3] ?_;try simp only [ak,F27,seval]
 repeat' first|apply awS|apply awB
 refine aM (fun n st=>∃k0 nx,k0<=g.debts.length/\n=g.debts.length-k0/\tkD i c (g.debts.drop k0)=tkD i c g.debts/\st=⟨mkT [(1,one (.int .i64 i)),(2,one (.int .i64 c)),(3,.val (.one (.ptr 3 0 0))),(12,.val (.one (.sh 4 g.debts.length (ar iC g.debts)))),(13,one (.int .i64 g.debts.length)),(14,one (.int .i64 k0))],mkH [(3,⟨0,28,2,1,fN g⟩)],nx,0⟩) (g.debts.length) ⟨0,_,by omega,by omega,by rfl,rfl⟩ ?_;rintro n0 st ⟨k0,nx0,hk0,rfl,hL0,rfl⟩;by_cases hlt0:k0<g.debts.length
 ·have hI0:(k0:Int)<(g.debts.length:Int):=by omega
  have hat0:=aO B7 g.debts k0 hlt0;try rw [Nat.mul_one] at hat0
  rw [List.drop_eq_getElem_cons hlt0] at hL0;have hA:=he _ (List.getElem_mem hlt0);generalize g.debts[k0]=d at *
  simp only [tkD] at hL0;refine awN ?_;simp only [F27,seval,fN,hI0];refine awT ?_;refine awK ?_;simp only [F27,seval];refine awN ?_;simp only [F27,seval,hI0,hat0,iC];repeat refine ob ?_
  refine awN ?_;simp only [F27,seval];refine aS [1,2,3,12,13,14,19,20,21] [3] ?_;try simp only [ak,F27,seval]
  repeat' first|apply awS|apply awB
  refine aM (fun n st=>∃k1 nx,k1<=d.legs.length/\n=d.legs.length-k1/\tkL i c (d.legs.drop k1)=tkL i c d.legs/\st=⟨mkT [(1,one (.int .i64 i)),(2,one (.int .i64 c)),(3,.val (.one (.ptr 3 0 0))),(12,.val (.one (.sh 4 g.debts.length (ar iC g.debts)))),(13,one (.int .i64 g.debts.length)),(14,one (.int .i64 k0)),(19,.val (.one (.sh 2 d.legs.length (ar ko d.legs)))),(20,one (.int .i64 d.legs.length)),(21,one (.int .i64 k1))],mkH [(3,⟨0,28,2,1,fN g⟩)],nx,0⟩) (d.legs.length) ⟨0,_,by omega,by omega,by rfl,rfl⟩ ?_;rintro n1 st ⟨k1,nx1,hk1,rfl,hL1,rfl⟩;by_cases hlt1:k1<d.legs.length
  ·have hI1:(k1:Int)<(d.legs.length:Int):=by omega
   have hat1:=aO im d.legs k1 hlt1;try rw [Nat.mul_one] at hat1
   rw [List.drop_eq_getElem_cons hlt1] at hL1;generalize d.legs[k1]=x at *
   simp only [tkL] at hL1;refine awN ?_;simp only [F27,seval,fN,hI1];refine awT ?_;refine awK ?_;simp only [F27,seval];refine awN ?_;simp only [F27,seval,hI1,hat1,ko];repeat refine ob ?_
   by_cases h1:x.1=i
   ·by_cases h2:x.2=c
    ·refine awR [] [0,0,0,0,0,61,61,61,61,0] ?_;simp only [F27,seval,h1,h2];refine awT ?_;refine awN ?_;simp only [F27,seval];refine awX ?_;(first|(simp only [F27,seval,h1,h2,←hL0,←hL1];done)|(simp only [F27,seval,fN];first|(simp [hI0,hat0,hI1,hat1,h1,h2,←hL0,←hL1];done)|(simp [hI0,hat0,hI1,hat1,h1,h2];done)|(rw [←hL0,←hL1];simp [hI0,hat0,hI1,hat1,h1,h2];done)))
    refine awR [] [0,0,0,0,0,61,61,61,61,0] ?_;simp only [F27,seval,h1,h2];refine awF ?_;refine awK ?_;simp only [F27,seval];refine awN ?_;simp only [F27,seval];repeat refine ob ?_
    refine ⟨_,aC [1,2,3,12,13,14,19,20,21] [3],d.legs.length-(k1+1),by omega,k1+1,?a12_nx,by omega,rfl,?i12_0,?st12⟩;case st12=>(simp only [F27,seval];first|rfl|(simp [Nat.add_mul];done))
    case i12_0=>(first|exact hL1|(rw [←hL1];simp only [reduceIte,h1,h2];done)|(rw [←hL1];simp [hI0,hat0,hI1,hat1,h1,h2];done)|(simp [hI0,hat0,hI1,hat1,h1,h2] at hL1;simpa using hL1)|(rw [←hL1];simp [*];done))
   refine awR [] [0,0,0,0,0,61,61,61,61,0] ?_;simp only [F27,seval,h1];refine awF ?_;refine awK ?_;simp only [F27,seval];refine awN ?_;simp only [F27,seval];repeat refine ob ?_
   refine ⟨_,aC [1,2,3,12,13,14,19,20,21] [3],d.legs.length-(k1+1),by omega,k1+1,?a15_nx,by omega,rfl,?i15_0,?st15⟩;case st15=>(simp only [F27,seval];first|rfl|(simp [Nat.add_mul];done))
   case i15_0=>(first|exact hL1|(rw [←hL1];simp only [reduceIte,h1];done)|(rw [←hL1];simp [hI0,hat0,hI1,hat1,h1];done)|(simp [hI0,hat0,hI1,hat1,h1] at hL1;simpa using hL1)|(rw [←hL1];simp [*];done))
  obtain rfl:k1=d.legs.length:=by omega
  have hI1:¬(d.legs.length:Int)<(d.legs.length:Int):=by omega
  rw [List.drop_length] at hL1;simp only [tkL] at hL1;refine awN ?_;simp only [F27,seval,fN,hI1];refine awF ?_;refine awQ ?_;simp only [F27,seval];refine awN ?_;simp only [F27,seval];repeat refine ob ?_
  refine ⟨_,aC [1,2,3,12,13,14] [3],g.debts.length-(k0+1),by omega,k0+1,?a18_nx,by omega,rfl,?i18_0,?st18⟩;case st18=>(simp only [F27,seval];first|rfl|(simp [Nat.add_mul];done))
  case i18_0=>(first|exact hL0|(rw [←hL0];simp [←hL1];done)|(rw [←hL0];simp only [reduceIte,hI0,hat0,hI1];done)|(rw [←hL0];simp [hI0,hat0,hI1];done)|(simp [hI0,hat0,hI1] at hL0;simpa using hL0)|(rw [←hL0];simp [*];done))
 obtain rfl:k0=g.debts.length:=by omega
 have hI0:¬(g.debts.length:Int)<(g.debts.length:Int):=by omega
 rw [List.drop_length] at hL0;simp only [tkD] at hL0;refine awN ?_;simp only [F27,seval,fN,hI0];refine awF ?_;refine awQ ?_;simp only [F27,seval];refine awN ?_;simp only [F27,seval];refine awX ?_;(first|(simp only [F27,seval,←hL0];done)|(simp only [F27,seval,fN];first|(simp [hI0,←hL0];done)|(simp [hI0];done)|(rw [←hL0];simp [hI0];done)))
end Go.Proofs.YtokmkopihhnggaaGreatDoor
