/- From a walked law to its row: the arguments opened into plain readings; what stands behind the call. No program in sight. -/
import Derived.Test.YtcgpghifhehlhaaGreatDoorJfM
import Derived.ProofKit
import Derived.OpenShut
import Derived.Deep.Slices
import Derived.Test.YtcgpghifhehlhaaGreatDoorProg
import Derived.Deep.Strs
import Derived.Test.YtcgpghifhehlhaaGreatDoorAbGM
import Derived.Test.YtcgpghifhehlhaaGreatDoorVal1M
set_option linter.unusedVariables false
set_option maxHeartbeats 4000000
set_option maxRecDepth 100000
set_option linter.unusedSimpArgs false
set_option linter.defProp false
namespace Go.Proofs.YtcgpghifhehlhaaGreatDoor
open Go.RowKit Go.ChangeShapes Go.WideShapes Go.ChangeAt Go.Proofs.Tryz
theorem mg {H:Type} {enc:TypeId×Value->H} {P:Program} (hl:laidOutB P=true) {W W':World} (hb:Below W.heap.size W W'):
  ∀(ts:List TypeId) (vs:List Value) (ds:List (DataW H)) (ps:List MemPlace),(∀t∈ts,P.readableRec t=true/\t<P.types.size)->(∀p∈ps,p.block<W.heap.size)->
   DataW.TrodAll enc P W 0 (fun _=>true) true ts vs ds ps->DataW.TrodAll enc P W' 0 (fun b=>decide (b<W.heap.size)) true ts vs ds ps:=by
 intro ts;induction ts with
 |nil=>
  intro vs ds ps _ _ h;obtain ⟨rfl,rfl,rfl⟩:=trodAll_nil h;exact trodAll_mk0
 |cons t ts ih=>
  intro vs ds ps hts hps h;obtain ⟨v,vs',d,ds',p,q,rfl,rfl,rfl,h0,h1⟩:=trodAll_cons h;have ht:=hts t (by simp);refine trodAll_cons_mk ?_ (ih _ _ _ (fun t' ht'=>hts t' (by simp [ht'])) (fun x hx=>hps x (by simp [hx])) h1);exact Below.trod hl ht.1 ht.2 h0 hb (fun x hx=>hps x (by simp [hx]))
theorem vi {H:Type} {enc:TypeId×Value->H} {P:Program} {fn:Func} {s:ChangeSpec} {W W':World} {args:Array Value} {ds:List (DataW H)} {before:List MemPlace} {bt:TypeId}
  (hl:laidOutB P=true) (hts:fn.params.toList.all (fun t=>P.readableRec t&&decide (t<P.types.size))=true) (hvars:s.vars=[])
  (hW:DataW.Whole enc P fn.params.toList s.vars false W args.toList ds [] before)
  (hres:(s.fn H (ds++[])).results=[.lit (.bool true)]) (hargs:(s.fn H (ds++[])).args=ds) (hrv:(s.fn H (ds++[])).vars=[])
  (hrt:fn.resultTypes= #[bt]) (hbt:P.underlying bt=some .bool) (hb:Below W.heap.size W W'):s.post enc P fn false true false false W args (.bool true) W':=by
 have hW0:=hW;obtain ⟨p,q,hA,hV,rfl,_,_⟩:=hW;rw [hvars] at hV;obtain ⟨_,hq⟩:=trodVars_none hV;have hlt:=hW0.lt;refine ⟨ds,[],p++q,[],p,[],hW0,?_,?_,?_,?_,fun h=>by cases h⟩
 ·rw [hres,hrt];exact trodAll_mk1 (shut_bool hbt true)
 ·rw [hargs];exact mg hl hb _ _ _ _ (fun t ht=>by have:=List.all_eq_true.1 hts t ht;simpa using this) (fun x hx=>hlt x (by simp [hx])) hA
 ·rw [hrv,hvars];rfl
 exact hb.frame _
def fD (P:Program) (t:TypeId) {α:Type} (R:dW α):Prop:=
 ∀(H:Type) (enc:TypeId×Value->H) (W:World) (fuel:Nat) (cs:List Value) (x:DataW H×List MemPlace),DataW.trod enc P W 0 (fun _=>true) true fuel t cs=some x->∃a,R W (LT W.heap.size) cs a
theorem pr {P:Program} {t e:TypeId} {α:Type} {R:dW α} {sz:Nat} (ht:P.underlying t=some (.slice e)) (hc:P.cellsOf e=sz) (hsz:0<sz) (he:fD P e R):fD P t (ax sz R):=by
 intro H enc W fuel cs x h;rcases Deep.open_slice ht h with ⟨rfl,_⟩|⟨a,len,cap,m,n,D,Pl,rfl,hb,hl,hm,hmm,_,hx⟩
 ·exact ⟨[],none,0,rfl,by simp,by unfold maxLen;omega,fun _=>rfl,.inl rfl⟩
 rw [if_pos rfl] at hmm;subst hmm;rw [hc] at hx;have hel:∀i,i<len->∃cs,cs.length=sz/\(∀c,c<sz->W.cell? ((a.add (i*sz)).add c)=cs[c]?)/\∃y,R W (LT W.heap.size) cs y:=by
  intro i hi;obtain ⟨cs',h1,h2⟩:=hx i (by omega);obtain ⟨_,h3,h4⟩:=World.cells?_some h1;exact ⟨cs',h3,h4,he H enc W n cs' _ h2⟩
 rcases Nat.eq_zero_or_pos len with hlen|hlen
 ·subst hlen;exact ⟨[],some a,_,rfl,by simp,hm,by simp,.inl rfl⟩
 obtain ⟨cs0,e1,e2,_⟩:=hel 0 hlen;have e3:=e2 0 hsz;rw [List.getElem?_eq_getElem (by omega)] at e3;simp only [Nat.zero_mul,Addr.add,if_pos] at e3;have hspot:a.spot=none:=by
  unfold World.cell? at e3;cases hsp:a.spot with
  |none=>rfl
  |some s=>rw [hsp] at e3;split at e3<;>simp at e3
 have hblk:=World.block_lt_of_cell? _ _ e3;obtain ⟨b,off,sp⟩:=a;simp only at hspot hblk;subst hspot;have hadd:∀i c,((⟨b,off,none⟩:Addr).add (i*sz)).add c=⟨b,off+i*sz+c,none⟩:=by
  intro i c;unfold Addr.add;by_cases hi:i*sz=0<;>by_cases hcc:c=0<;>simp [hi,hcc]
 let f:Fin len->α:=fun i=>(hel i.1 i.2).choose_spec.2.2.choose
 refine ⟨List.ofFn f,some ⟨b,off,none⟩,_,by simp,by simpa using hl,hm,by simp,.inr ⟨b,off,rfl,hblk,fun j hj=>?_⟩⟩;have hj':j<len:=by simpa using hj
 have h5:=(hel j hj').choose_spec;refine ⟨_,h5.1,fun c hc=>by rw [←hadd];exact h5.2.1 c hc,?_⟩;have h6:=h5.2.2.choose_spec;simpa [f] using h6
theorem vj {P:Program} {t:TypeId} (ht:P.underlying t=some (.int .u8)):fD P t rU8:=by
 intro H enc W fuel cs x h;obtain ⟨n,rfl,_,hw⟩:=DataW.trod_int ht h;have:0<=n/\n<=255:=by simpa [Lit.wf,IntKind.min,IntKind.max,IntKind.signed,IntKind.bits] using hw
 exact ⟨n.toNat,by rw [show ((n.toNat:Nat):Int)=n by omega],by omega⟩
theorem tE {P:Program} {t:TypeId} (ht:P.underlying t=some (.int .u16)):fD P t zd:=by
 intro H enc W fuel cs x h;obtain ⟨n,rfl,_,hw⟩:=DataW.trod_int ht h;have:0<=n/\n<=65535:=by simpa [Lit.wf,IntKind.min,IntKind.max,IntKind.signed,IntKind.bits] using hw
 exact ⟨n.toNat,by rw [show ((n.toNat:Nat):Int)=n by omega],by omega⟩
theorem fE {P:Program} {t e:TypeId} {α:Type} {R:dW α} {H:Type} {enc:TypeId×Value->H} {W:World} {v:Value} {d:DataW H} {p:List MemPlace} {base:Nat} {rc:Reach}
  (ht:P.underlying t=some (.slice e)) (hok:Value.okWide P W rc base t v) (ho:fD P t R) (h:DataW.Trod enc P W 0 (fun _=>true) true t v d p):∃l,R W (LT W.heap.size) [v] l:=by
 obtain ⟨a,len,cap,rfl⟩:=okWide_slice ht hok;obtain ⟨fuel,h⟩:=h;exact ho H enc W fuel _ _ h
theorem fk {P:Program} {t:TypeId} {k:IntKind} {α:Type} {R:dW α} {H:Type} {enc:TypeId×Value->H} {W:World} {v:Value} {d:DataW H} {p:List MemPlace} {base:Nat} {rc:Reach}
  (ht:P.underlying t=some (.int k)) (hok:Value.okWide P W rc base t v) (ho:fD P t R) (h:DataW.Trod enc P W 0 (fun _=>true) true t v d p):∃l,R W (LT W.heap.size) [v] l:=by
 obtain ⟨n,rfl⟩:=okWide_int ht hok;obtain ⟨fuel,h⟩:=h;exact ho H enc W fuel _ _ h

end Go.Proofs.YtcgpghifhehlhaaGreatDoor
namespace Go.Proofs.YtcgpghifhehlhaaGreatDoor
open Go.RowKit Go.ChangeShapes Go.WideShapes Go.ChangeAt Go Go.Proofs.Tryz
def rC {α:Type} (enc:α->List C) (ok:α->Prop):dW α:=fun W T cs a=>denVs (kIn W T W) cs (enc a)/\ok a
def cSl {α:Type} (sz:Nat) (enc:α->List C) (l:List α):List C:=[.sh sz l.length (ar enc l)]
def nO {α:Type} (ok:α->Prop) (l:List α):Prop:=l.length<=maxLen/\∀a∈l,ok a
theorem kg {κ:Kx} {b:Nat}:∀{xs ys:List C} {off:Nat},denM κ b off xs->denM κ b (off+xs.length) ys->denM κ b off (xs++ys)
 |[],ys,off,_,h=>by simpa using h
 |x::xs,ys,off,h,k=>by
  simp only [denM,List.cons_append] at h ⊢;refine ⟨h.1,kg h.2 ?_⟩;rw [List.length_cons] at k;rwa [Nat.add_assoc,Nat.add_comm 1]
theorem mO {α:Type} {enc:α->List C} {sz:Nat} (hlen:∀a,(enc a).length=sz) {κ:Kx} {b:Nat}:
  ∀(l:List α) (off:Nat),(∀j (h:j<l.length),∃cs,cs.length=sz/\(∀c,c<sz->κ.w.cell? ⟨b,off+j*sz+c,none⟩=cs[c]?)/\denVs κ cs (enc l[j]))->denM κ b off (ar enc l)
 |[],_,_=>by simp [ar,denM]
 |a::l,off,h=>by
  rw [aY];refine kg ?_ ?_
  ·obtain ⟨cs,h1,h2,h3⟩:=h 0 (by simp);refine denM.of_vals h3 fun j u hj=>?_
   have hlt:j<sz:=by rw [←h1];exact (List.getElem?_eq_some_iff.1 hj).1
   have:=h2 j hlt;rw [←hj,←this];simp
  rw [hlen];refine mO hlen l (off+sz) fun j hj=>?_
  obtain ⟨cs,h1,h2,h3⟩:=h (j+1) (by simpa using hj);refine ⟨cs,h1,fun c hc=>?_,by simpa using h3⟩;rw [←h2 c hc];congr 2;rw [Nat.succ_mul];omega
theorem pt {P:Program} {t e:TypeId} {α:Type} {enc:α->List C} {ok:α->Prop} {sz:Nat} (ht:P.underlying t=some (.slice e)) (hc:P.cellsOf e=sz) (hsz:0<sz) (hlen:∀a,(enc a).length=sz)
  (he:fD P e (rC enc ok)):fD P t (rC (cSl sz enc) (nO ok)):=by
 intro H nc W fuel cs x h;obtain ⟨l,a,cap,rfl,h1,h2,h3,h4⟩:=pr ht hc hsz he H nc W fuel cs x h;have hl:l.length<=maxLen:=Nat.le_trans h1 h2;rcases h4 with rfl|⟨b,off,rfl,hb,hall⟩
 ·exact ⟨[],⟨⟨a,cap,rfl,h1,h2,h3,by simp [ar],.inl rfl⟩,trivial⟩,hl,fun _ h=>by cases h⟩
 refine ⟨l,⟨⟨_,cap,rfl,h1,h2,h3,aS hlen l,.inr ⟨b,off,rfl,kO hb,mO hlen l off fun j hj=>?_⟩⟩,trivial⟩,hl,fun y hy=>?_⟩
 ·obtain ⟨cs,k1,k2,k3⟩:=hall j hj;exact ⟨cs,k1,k2,k3.1⟩
 obtain ⟨j,hj,rfl⟩:=List.getElem_of_mem hy;obtain ⟨cs,k1,k2,k3⟩:=hall j hj;exact k3.2
end Go.Proofs.YtcgpghifhehlhaaGreatDoor
namespace Go.Proofs.YtcgpghifhehlhaaGreatDoor
open Go Go.RowKit Go.Proofs.Tryz
def frP (c:Int):List GPart->Bool
 |[]=>true
 |p::l=>if p.claim=c then false else frP c l
def frT (c:Int):List (List GPart)->Bool
 |[]=>true
 |t::l=>if frP c t=true then frT c l else false
def frA (c:Int):List cw->Bool
 |[]=>true
 |a::l=>if frT c a=true then frA c l else false
def tkL (i c:Int):List Leg->Bool
 |[]=>false
 |x::l=>if x.1=i then (if x.2=c then true else tkL i c l) else tkL i c l
def tkD (i c:Int):List GDebt->Bool
 |[]=>false
 |d::l=>if tkL i c d.legs=true then true else tkD i c l
def F0:=And.intro zS (And.intro tf0 (And.intro tf1 (And.intro tf2 (And.intro tf3 (And.intro tf4 (And.intro tf5 (And.intro tf6 (And.intro tf7 (And.intro tf8 (And.intro tf9 (And.intro pi (And.intro tu (And.intro xd (And.intro Kg (And.intro Jy (And.intro KF (pj)))))))))))))))))
theorem F1:type_of%F0:=F0
theorem nP (e:GEst) (c:Int) (hn:e.agrs.length<=1000000000000) (he:∀a∈e.agrs,a.length<=1000000000000/\∀t∈a,t.length<=1000000000000):ch prog 64 [.agg (bh e),.one (.lit (.int .i64 c))] (one (.bool (frA c e.agrs))):=by
 refine bF func64 rfl (by decide) (N:=38) rfl (by simp) (R:=[.tmp 4]) rfl fun en k0=>?_
 refine awN ?_;simp only [F1,seval,bh];refine awN ?_;simp only [F1,seval];refine aQ [1,2,12,13,14] [2] ?_;try simp only [aq,F1,seval]
 repeat' first|apply awS|apply awB
 refine aB (fun n st=>∃k0 nx,k0<=e.agrs.length/\n=e.agrs.length-k0/\frA c (e.agrs.drop k0)=frA c e.agrs/\st=⟨mkT [(1,one (.int .i64 c)),(2,.val (.one (.ptr 2 0 0))),(12,.val (.one (.sh 1 e.agrs.length (ar aU e.agrs)))),(13,one (.int .i64 e.agrs.length)),(14,one (.int .i64 k0))],mkH [(2,⟨0,36,5,1,bh e⟩)],nx,0⟩) (e.agrs.length) ⟨0,_,by omega,by omega,by rfl,rfl⟩ ?_;rintro n0 st ⟨k0,nx0,hk0,rfl,hL0,rfl⟩;by_cases hlt0:k0<e.agrs.length
 ·skip;have hI0:(k0:Int)<(e.agrs.length:Int):=by omega
  have hat0:=aO dG e.agrs k0 hlt0;try rw [Nat.mul_one] at hat0
  rw [List.drop_eq_getElem_cons hlt0] at hL0;have hA:=he _ (List.getElem_mem hlt0);generalize e.agrs[k0]=a at *
  simp only [frA] at hL0;refine awN ?_;simp only [F1,seval,bh,hI0];refine awT ?_;refine awK ?_;simp only [F1,seval];refine awN ?_;simp only [F1,seval,hI0,hat0,aU];repeat refine ob ?_
  refine awN ?_;simp only [F1,seval];refine aQ [1,2,12,13,14,19,20,21] [2] ?_;try simp only [aq,F1,seval]
  repeat' first|apply awS|apply awB
  refine aB (fun n st=>∃k1 nx,k1<=a.length/\n=a.length-k1/\frT c (a.drop k1)=frT c a/\st=⟨mkT [(1,one (.int .i64 c)),(2,.val (.one (.ptr 2 0 0))),(12,.val (.one (.sh 1 e.agrs.length (ar aU e.agrs)))),(13,one (.int .i64 e.agrs.length)),(14,one (.int .i64 k0)),(19,.val (.one (.sh 1 a.length (ar bo a)))),(20,one (.int .i64 a.length)),(21,one (.int .i64 k1))],mkH [(2,⟨0,36,5,1,bh e⟩)],nx,0⟩) (a.length) ⟨0,_,by omega,by omega,by rfl,rfl⟩ ?_;rintro n1 st ⟨k1,nx1,hk1,rfl,hL1,rfl⟩;by_cases hlt1:k1<a.length
  ·skip;have hI1:(k1:Int)<(a.length:Int):=by omega
   have hat1:=aO eI a k1 hlt1;try rw [Nat.mul_one] at hat1
   rw [List.drop_eq_getElem_cons hlt1] at hL1;have hn3:=hA.2 _ (List.getElem_mem hlt1);generalize a[k1]=t at *
   simp only [frT] at hL1;refine awN ?_;simp only [F1,seval,bh,hI1];refine awT ?_;refine awK ?_;simp only [F1,seval];refine awN ?_;simp only [F1,seval,hI1,hat1,bo];repeat refine ob ?_
   refine awN ?_;simp only [F1,seval];refine aQ [1,2,12,13,14,19,20,21,25,26,27] [2] ?_;try simp only [aq,F1,seval]
   repeat' first|apply awS|apply awB
   refine aB (fun n st=>∃k2 nx,k2<=t.length/\n=t.length-k2/\frP c (t.drop k2)=frP c t/\st=⟨mkT [(1,one (.int .i64 c)),(2,.val (.one (.ptr 2 0 0))),(12,.val (.one (.sh 1 e.agrs.length (ar aU e.agrs)))),(13,one (.int .i64 e.agrs.length)),(14,one (.int .i64 k0)),(19,.val (.one (.sh 1 a.length (ar bo a)))),(20,one (.int .i64 a.length)),(21,one (.int .i64 k1)),(25,.val (.one (.sh 5 t.length (ar aT t)))),(26,one (.int .i64 t.length)),(27,one (.int .i64 k2))],mkH [(2,⟨0,36,5,1,bh e⟩)],nx,0⟩) (t.length) ⟨0,_,by omega,by omega,by rfl,rfl⟩ ?_;rintro n2 st ⟨k2,nx2,hk2,rfl,hL2,rfl⟩;by_cases hlt2:k2<t.length
   ·skip;have hI2:(k2:Int)<(t.length:Int):=by omega
    have hat2:=aO gj t k2 hlt2;try rw [Nat.mul_one] at hat2
    rw [List.drop_eq_getElem_cons hlt2] at hL2;generalize t[k2]=p at *
    simp only [frP] at hL2;refine awN ?_;simp only [F1,seval,bh,hI2];refine awT ?_;refine awK ?_;simp only [F1,seval];refine awN ?_;simp only [F1,seval,hI2,hat2,aT];repeat refine ob ?_
    by_cases h1:p.claim=c
    ·skip;refine awN ?_;simp only [F1,seval,h1];refine awT ?_;refine awN ?_;simp only [F1,seval];refine awX ?_;(first|(simp only [F1,seval,h1,←hL0,←hL1,←hL2];done)|(simp only [F1,seval,bh];first|(simp [hI0,hat0,hI1,hat1,hI2,hat2,h1,←hL0,←hL1,←hL2];done)|(simp [hI0,hat0,hI1,hat1,hI2,hat2,h1];done)|(rw [←hL0,←hL1,←hL2];simp [hI0,hat0,hI1,hat1,hI2,hat2,h1];done)))
    skip;refine awN ?_;simp only [F1,seval,h1];refine awF ?_;refine awK ?_;simp only [F1,seval];refine awN ?_;simp only [F1,seval];repeat refine ob ?_
    refine ⟨_,aH [1,2,12,13,14,19,20,21,25,26,27] [2],t.length-(k2+1),by omega,k2+1,?a15_nx,by omega,rfl,?i15_0,?st15⟩;case st15=>(simp only [F1,seval];first|rfl|(simp [Nat.add_mul];done))
    case i15_0=>(first|exact hL2|(rw [←hL2];simp only [reduceIte,h1];done)|(rw [←hL2];simp [hI0,hat0,hI1,hat1,hI2,hat2,h1];done)|(simp [hI0,hat0,hI1,hat1,hI2,hat2,h1] at hL2;simpa using hL2)|(rw [←hL2];simp [*];done))
   skip;obtain rfl:k2=t.length:=by omega
   have hI2:¬(t.length:Int)<(t.length:Int):=by omega
   rw [List.drop_length] at hL2;simp only [frP] at hL2;refine awN ?_;simp only [F1,seval,bh,hI2];refine awF ?_;refine awQ ?_;simp only [F1,seval];refine awN ?_;simp only [F1,seval];repeat refine ob ?_
   refine ⟨_,aH [1,2,12,13,14,19,20,21] [2],a.length-(k1+1),by omega,k1+1,?a18_nx,by omega,rfl,?i18_0,?st18⟩;case st18=>(simp only [F1,seval];first|rfl|(simp [Nat.add_mul];done))
   case i18_0=>(first|exact hL1|(rw [←hL1];simp [←hL2];done)|(rw [←hL1];simp only [reduceIte,hI0,hat0,hI1,hat1,hI2];done)|(rw [←hL1];simp [hI0,hat0,hI1,hat1,hI2];done)|(simp [hI0,hat0,hI1,hat1,hI2] at hL1;simpa using hL1)|(rw [←hL1];simp [*];done))
  skip;obtain rfl:k1=a.length:=by omega
  have hI1:¬(a.length:Int)<(a.length:Int):=by omega
  rw [List.drop_length] at hL1;simp only [frT] at hL1;refine awN ?_;simp only [F1,seval,bh,hI1];refine awF ?_;refine awQ ?_;simp only [F1,seval];refine awN ?_;simp only [F1,seval];repeat refine ob ?_
  refine ⟨_,aH [1,2,12,13,14] [2],e.agrs.length-(k0+1),by omega,k0+1,?a21_nx,by omega,rfl,?i21_0,?st21⟩;case st21=>(simp only [F1,seval];first|rfl|(simp [Nat.add_mul];done))
  case i21_0=>(first|exact hL0|(rw [←hL0];simp [←hL1];done)|(rw [←hL0];simp only [reduceIte,hI0,hat0,hI1];done)|(rw [←hL0];simp [hI0,hat0,hI1];done)|(simp [hI0,hat0,hI1] at hL0;simpa using hL0)|(rw [←hL0];simp [*];done))
 skip;obtain rfl:k0=e.agrs.length:=by omega
 have hI0:¬(e.agrs.length:Int)<(e.agrs.length:Int):=by omega
 rw [List.drop_length] at hL0;simp only [frA] at hL0;refine awN ?_;simp only [F1,seval,bh,hI0];refine awF ?_;refine awQ ?_;simp only [F1,seval];refine awN ?_;simp only [F1,seval];refine awX ?_;(first|(simp only [F1,seval,←hL0];done)|(simp only [F1,seval,bh];first|(simp [hI0,←hL0];done)|(simp [hI0];done)|(rw [←hL0];simp [hI0];done)))
def F2:=And.intro zS (And.intro u6 (And.intro u7 (And.intro pk (And.intro tv (And.intro tw (And.intro pl (And.intro tx (And.intro tz (And.intro pm (And.intro tA (And.intro xe (And.intro xf (And.intro Jy (And.intro xg (xh)))))))))))))))
theorem F3:type_of%F2:=F2
theorem nQ (g:GGrp) (i c:Int) (hn:g.debts.length<=1000000000000) (he:∀d∈g.debts,d.legs.length<=1000000000000):ch prog 65 [.agg (au g),.one (.lit (.int .i64 i)),.one (.lit (.int .i64 c))] (one (.bool (tkD i c g.debts))):=by
 refine bF func65 rfl (by decide) (N:=37) rfl (by simp) (R:=[.tmp 6]) rfl fun en k0=>?_
 refine awN ?_;simp only [F3,seval,au];refine awN ?_;simp only [F3,seval];refine aQ [1,2,3,12,13,14] [3] ?_;try simp only [aq,F3,seval]
 repeat' first|apply awS|apply awB
 refine aB (fun n st=>∃k0 nx,k0<=g.debts.length/\n=g.debts.length-k0/\tkD i c (g.debts.drop k0)=tkD i c g.debts/\st=⟨mkT [(1,one (.int .i64 i)),(2,one (.int .i64 c)),(3,.val (.one (.ptr 3 0 0))),(12,.val (.one (.sh 4 g.debts.length (ar cn g.debts)))),(13,one (.int .i64 g.debts.length)),(14,one (.int .i64 k0))],mkH [(3,⟨0,28,2,1,au g⟩)],nx,0⟩) (g.debts.length) ⟨0,_,by omega,by omega,by rfl,rfl⟩ ?_;rintro n0 st ⟨k0,nx0,hk0,rfl,hL0,rfl⟩;by_cases hlt0:k0<g.debts.length
 ·have hI0:(k0:Int)<(g.debts.length:Int):=by omega
  have hat0:=aO dT g.debts k0 hlt0;try rw [Nat.mul_one] at hat0
  rw [List.drop_eq_getElem_cons hlt0] at hL0;have hA:=he _ (List.getElem_mem hlt0);generalize g.debts[k0]=d at *
  simp only [tkD] at hL0;refine awN ?_;simp only [F3,seval,au,hI0];refine awT ?_;refine awK ?_;simp only [F3,seval];refine awN ?_;simp only [F3,seval,hI0,hat0,cn];repeat refine ob ?_
  refine awN ?_;simp only [F3,seval];refine aQ [1,2,3,12,13,14,19,20,21] [3] ?_;try simp only [aq,F3,seval]
  repeat' first|apply awS|apply awB
  refine aB (fun n st=>∃k1 nx,k1<=d.legs.length/\n=d.legs.length-k1/\tkL i c (d.legs.drop k1)=tkL i c d.legs/\st=⟨mkT [(1,one (.int .i64 i)),(2,one (.int .i64 c)),(3,.val (.one (.ptr 3 0 0))),(12,.val (.one (.sh 4 g.debts.length (ar cn g.debts)))),(13,one (.int .i64 g.debts.length)),(14,one (.int .i64 k0)),(19,.val (.one (.sh 2 d.legs.length (ar f9 d.legs)))),(20,one (.int .i64 d.legs.length)),(21,one (.int .i64 k1))],mkH [(3,⟨0,28,2,1,au g⟩)],nx,0⟩) (d.legs.length) ⟨0,_,by omega,by omega,by rfl,rfl⟩ ?_;rintro n1 st ⟨k1,nx1,hk1,rfl,hL1,rfl⟩;by_cases hlt1:k1<d.legs.length
  ·have hI1:(k1:Int)<(d.legs.length:Int):=by omega
   have hat1:=aO cr d.legs k1 hlt1;try rw [Nat.mul_one] at hat1
   rw [List.drop_eq_getElem_cons hlt1] at hL1;generalize d.legs[k1]=x at *
   simp only [tkL] at hL1;refine awN ?_;simp only [F3,seval,au,hI1];refine awT ?_;refine awK ?_;simp only [F3,seval];refine awN ?_;simp only [F3,seval,hI1,hat1,f9];repeat refine ob ?_
   by_cases h1:x.1=i
   ·by_cases h2:x.2=c
    ·refine awR [] [0,0,0,0,0,61,61,61,61,0] ?_;simp only [F3,seval,h1,h2];refine awT ?_;refine awN ?_;simp only [F3,seval];refine awX ?_;(first|(simp only [F3,seval,h1,h2,←hL0,←hL1];done)|(simp only [F3,seval,au];first|(simp [hI0,hat0,hI1,hat1,h1,h2,←hL0,←hL1];done)|(simp [hI0,hat0,hI1,hat1,h1,h2];done)|(rw [←hL0,←hL1];simp [hI0,hat0,hI1,hat1,h1,h2];done)))
    refine awR [] [0,0,0,0,0,61,61,61,61,0] ?_;simp only [F3,seval,h1,h2];refine awF ?_;refine awK ?_;simp only [F3,seval];refine awN ?_;simp only [F3,seval];repeat refine ob ?_
    refine ⟨_,aH [1,2,3,12,13,14,19,20,21] [3],d.legs.length-(k1+1),by omega,k1+1,?a12_nx,by omega,rfl,?i12_0,?st12⟩;case st12=>(simp only [F3,seval];first|rfl|(simp [Nat.add_mul];done))
    case i12_0=>(first|exact hL1|(rw [←hL1];simp only [reduceIte,h1,h2];done)|(rw [←hL1];simp [hI0,hat0,hI1,hat1,h1,h2];done)|(simp [hI0,hat0,hI1,hat1,h1,h2] at hL1;simpa using hL1)|(rw [←hL1];simp [*];done))
   refine awR [] [0,0,0,0,0,61,61,61,61,0] ?_;simp only [F3,seval,h1];refine awF ?_;refine awK ?_;simp only [F3,seval];refine awN ?_;simp only [F3,seval];repeat refine ob ?_
   refine ⟨_,aH [1,2,3,12,13,14,19,20,21] [3],d.legs.length-(k1+1),by omega,k1+1,?a15_nx,by omega,rfl,?i15_0,?st15⟩;case st15=>(simp only [F3,seval];first|rfl|(simp [Nat.add_mul];done))
   case i15_0=>(first|exact hL1|(rw [←hL1];simp only [reduceIte,h1];done)|(rw [←hL1];simp [hI0,hat0,hI1,hat1,h1];done)|(simp [hI0,hat0,hI1,hat1,h1] at hL1;simpa using hL1)|(rw [←hL1];simp [*];done))
  obtain rfl:k1=d.legs.length:=by omega
  have hI1:¬(d.legs.length:Int)<(d.legs.length:Int):=by omega
  rw [List.drop_length] at hL1;simp only [tkL] at hL1;refine awN ?_;simp only [F3,seval,au,hI1];refine awF ?_;refine awQ ?_;simp only [F3,seval];refine awN ?_;simp only [F3,seval];repeat refine ob ?_
  refine ⟨_,aH [1,2,3,12,13,14] [3],g.debts.length-(k0+1),by omega,k0+1,?a18_nx,by omega,rfl,?i18_0,?st18⟩;case st18=>(simp only [F3,seval];first|rfl|(simp [Nat.add_mul];done))
  case i18_0=>(first|exact hL0|(rw [←hL0];simp [←hL1];done)|(rw [←hL0];simp only [reduceIte,hI0,hat0,hI1];done)|(rw [←hL0];simp [hI0,hat0,hI1];done)|(simp [hI0,hat0,hI1] at hL0;simpa using hL0)|(rw [←hL0];simp [*];done))
 obtain rfl:k0=g.debts.length:=by omega
 have hI0:¬(g.debts.length:Int)<(g.debts.length:Int):=by omega
 rw [List.drop_length] at hL0;simp only [tkD] at hL0;refine awN ?_;simp only [F3,seval,au,hI0];refine awF ?_;refine awQ ?_;simp only [F3,seval];refine awN ?_;simp only [F3,seval];refine awX ?_;(first|(simp only [F3,seval,←hL0];done)|(simp only [F3,seval,au];first|(simp [hI0,←hL0];done)|(simp [hI0];done)|(rw [←hL0];simp [hI0];done)))
end Go.Proofs.YtcgpghifhehlhaaGreatDoor
namespace Go.Proofs.YtcgpghifhehlhaaGreatDoor
open Go.RowKit Go.Proofs.Tryz
theorem vn:qOf gZ=0:=by rw [ln,Aw]
theorem jX (n:Int) (w:World) (h0: -9223372036854775808<=n) (h1:n<=9223372036854775807):Calls prog 12 #[.int .i64 n] w fun e w'=>e= .returned (aN (enc (n:Rat)))/\Below w.heap.size w w':=by
 have I:=hid (fun w=>uU n w h0 h1);have HX:=hid (Bx1.new w);generalize enc (n:Rat)=a at *
 unfold aN at I;unfold aN;go_enter func12,ntmps12
 go_wp2_with fail
 refine Calls.mono (I.out _) ?_;rintro e w1 ⟨rfl,hb1⟩;have hx:=HX.out.next hb1;obtain ⟨t0,t1,t2,t3,t4⟩:=hx.1.facts;go_wp2
 refine bC (hx.ret a).1 (fun W' c0 c1 c2=>by simp [results,Tryz.results12,go_sem,c0,c1,c2]) rfl ⟨rfl,(hx.ret a).2⟩
theorem vo (a b:Nat) (w:World) (ha:a<=9223372036854775807) (hb:b<=9223372036854775807) (hd:0<b):
  Calls prog 63 #[.int .i64 a,.int .i64 b] w fun e w'=>e= .returned (aN (enc (mkRat (a:Int) b)))/\Below w.heap.size w w':=by
 have F:=hid (fun w=>nG a b w ha hb hd);have HX:=hid (Bx1.new w);generalize enc (mkRat (a:Int) b)=q at *
 unfold aN at F;unfold aN;go_enter func63,ntmps63
 go_wp2_with fail
 refine Calls.mono (F.out _) ?_;rintro e w1 ⟨rfl,hb1⟩;have hx:=HX.out.next hb1;obtain ⟨t0,t1,t2,t3,t4⟩:=hx.1.facts;have S:=hid (hx.1.put q);have hbx:=hid (dS hx.2 (Nat.le_refl _) q);go_wp2
 refine bC (Blk3.alloc S.out _) (fun W' c0 c1 c2=>by simp [results,Tryz.results63,go_sem,c0,c1,c2]) rfl ⟨rfl,hbx.out.alloc (Below.size hbx.out) _⟩
theorem qR (x:Nat) (w:World) (hx:x<65536):Calls prog 28 #[.int .u16 x] w fun e w'=>e= .returned (aN (enc (cY x)))/\Below w.heap.size w w':=by
 have HX:=hid (Bx1.new w);by_cases h0:x%5=0
 ·have e0:((x:Int)%5==0)=true:=by simp;omega
  have R:=vo (x/5%23) (1+x/115%6);have hq:cY x=mkRat ((x/5%23:Nat):Int) (1+x/115%6):=by unfold cY;rw [if_pos h0]
  rw [←hq] at R;rw [show (((x/5%23:Nat)):Int)=(x:Int)/5%23 by omega,show (((1+x/115%6:Nat)):Int)=1+(x:Int)/115%6 by omega] at R;have RR:=hid (fun w=>R w (by omega) (by omega) (by omega));generalize enc (cY x)=q at *
  clear R hq;unfold aN at RR;unfold aN;go_enter func28,ntmps28
  go_wp2_with fail
  refine Calls.mono (RR.out _) ?_;rintro e w1 ⟨rfl,hb1⟩;have hx:=HX.out.next hb1;obtain ⟨t0,t1,t2,t3,t4⟩:=hx.1.facts;go_wp2
  refine bC (hx.ret q).1 (fun W' c0 c1 c2=>by simp [results,Tryz.results28,go_sem,c0,c1,c2]) rfl ⟨rfl,(hx.ret q).2⟩
 have e0:((x:Int)%5==0)=false:=by simp;omega
 by_cases h1:x%5=1
 ·have e1:((x:Int)%5==1)=true:=by simp;omega
  have R:=jX (10*((x:Int)/5%4));have hq:cY x=(((10*((x:Int)/5%4)):Int):Rat):=by unfold cY;rw [if_neg h0,if_pos h1];congr 1
  rw [←hq] at R;have RR:=hid (fun w=>R w (by omega) (by omega));generalize enc (cY x)=q at *
  clear R hq;unfold aN at RR;unfold aN;go_enter func28,ntmps28
  go_wp2_with fail
  refine Calls.mono (RR.out _) ?_;rintro e w1 ⟨rfl,hb1⟩;have hx:=HX.out.next hb1;obtain ⟨t0,t1,t2,t3,t4⟩:=hx.1.facts;go_wp2
  refine bC (hx.ret q).1 (fun W' c0 c1 c2=>by simp [results,Tryz.results28,go_sem,c0,c1,c2]) rfl ⟨rfl,(hx.ret q).2⟩
 have e1:((x:Int)%5==1)=false:=by simp;omega
 have R:=jX ((x:Int)/5%13);have hq:cY x=((((x:Int)/5%13):Int):Rat):=by unfold cY;rw [if_neg h0,if_neg h1];congr 1
 rw [←hq] at R;have RR:=hid (fun w=>R w (by omega) (by omega));generalize enc (cY x)=q at *
 clear R hq;unfold aN at RR;unfold aN;go_enter func28,ntmps28
 go_wp2_with fail
 refine Calls.mono (RR.out _) ?_;rintro e w1 ⟨rfl,hb1⟩;have hx:=HX.out.next hb1;obtain ⟨t0,t1,t2,t3,t4⟩:=hx.1.facts;go_wp2
 refine bC (hx.ret q).1 (fun W' c0 c1 c2=>by simp [results,Tryz.results28,go_sem,c0,c1,c2]) rfl ⟨rfl,(hx.ret q).2⟩
end Go.Proofs.YtcgpghifhehlhaaGreatDoor
namespace Go.Proofs.YtcgpghifhehlhaaGreatDoor
open Go Go.RowKit Go.Proofs.Tryz
structure T3 where
 a:List GPart
 b:List GPart
 c:List GPart
def T3.put (T:T3) (x:Nat) (p:GPart):T3:=if x=1 then ⟨T.a++[p],T.b,T.c⟩ else if x=2 then ⟨T.a,T.b++[p],T.c⟩ else ⟨T.a,T.b,T.c++[p]⟩
noncomputable def bgP (p:N3) (i:Nat):GPart:=if p.c/2^i%2=1 then ⟨i,true,enc (((p.c/64%9:Nat):Int):Rat)⟩ else ⟨i,false,gZ⟩
def bgB (p:N3) (i:Nat):Nat:=p.b/4^i%4
noncomputable def bgS (agrs:List cw) (p:N3) (i:Nat) (T:T3):T3:=if bgB p i=0 then T else if frA i agrs=true then T.put (bgB p i) (bgP p i) else T
noncomputable def bgL (agrs:List cw) (p:N3):List GClaim->Nat->T3->T3
 |[],_,T=>T
 |_::l,i,T=>bgL agrs p l (i+1) (bgS agrs p i T)
noncomputable def bgT (p:N3) (T:T3):T3:=if p.a/8%4=0 then T.put (p.a/32%3+1) ⟨-1,true,enc (((p.a/96%7:Nat):Int):Rat)⟩ else T
noncomputable def bgN (e:GEst) (p:N3):cw:=[(bgT p (bgL e.agrs p e.claims 0 ⟨[],[],[]⟩)).a,(bgT p (bgL e.agrs p e.claims 0 ⟨[],[],[]⟩)).b,(bgT p (bgL e.agrs p e.claims 0 ⟨[],[],[]⟩)).c]
theorem kk (n:Nat) (h:n<65536):IntKind.u16.wrap (n:Int)=n:=by simp [IntKind.wrap,IntKind.bits,IntKind.signed];omega
theorem qS (n:Nat) (h:n<18446744073709551616):IntKind.u64.wrap (n:Int)=n:=by simp [IntKind.wrap,IntKind.bits,IntKind.signed];omega
theorem wri (n:Nat) (h:n<9223372036854775808):IntKind.i64.wrap (n:Int)=n:=kr ((rT _).2 ⟨by omega,by omega⟩)
theorem zL (n j:Nat) (hn:n<65536) (hj:j<=64):IntKind.i64.wrap ((BitVec.ofInt IntKind.i64.bits ((n:Int).fdiv (2^min j IntKind.i64.bits))&&&BitVec.ofInt IntKind.i64.bits 3).toNat:Int)=((n/2^j%4:Nat):Int):=by
 have h1:(BitVec.ofInt 64 ((n:Int).fdiv (2^min j 64))&&&BitVec.ofInt 64 3).toNat=n/2^j%4:=by
  rw [Nat.min_eq_left hj];have h1:(n:Int).fdiv (2^j)=((n/2^j:Nat):Int):=by
   have:(2:Int)^j=((2^j:Nat):Int):=by norm_cast
   rw [this,Int.fdiv_eq_ediv_of_nonneg _ (Int.natCast_nonneg _)];norm_cast
  have h2:n/2^j<65536:=Nat.lt_of_le_of_lt (Nat.div_le_self _ _) hn;rw [h1,BitVec.ofInt_natCast,BitVec.toNat_and,BitVec.toNat_ofNat,Nat.mod_eq_of_lt (a:=n/2^j) (by omega)];exact Nat.and_two_pow_sub_one_eq_mod (n:=2) _
 have h3:IntKind.i64.bits=64:=rfl;rw [h3,h1];exact wri _ (by omega)
theorem vp (n j:Nat) (hn:n<65536) (hj:j<=64):IntKind.i64.wrap ((BitVec.ofInt IntKind.i64.bits ((n:Int).fdiv (2^min j IntKind.i64.bits))&&&BitVec.ofInt IntKind.i64.bits 1).toNat:Int)=((n/2^j%2:Nat):Int):=by
 have h1:(BitVec.ofInt 64 ((n:Int).fdiv (2^min j 64))&&&BitVec.ofInt 64 1).toNat=n/2^j%2:=by
  rw [Nat.min_eq_left hj];have h1:(n:Int).fdiv (2^j)=((n/2^j:Nat):Int):=by
   have:(2:Int)^j=((2^j:Nat):Int):=by norm_cast
   rw [this,Int.fdiv_eq_ediv_of_nonneg _ (Int.natCast_nonneg _)];norm_cast
  have h2:n/2^j<65536:=Nat.lt_of_le_of_lt (Nat.div_le_self _ _) hn;rw [h1,BitVec.ofInt_natCast,BitVec.toNat_and,BitVec.toNat_ofNat,Nat.mod_eq_of_lt (a:=n/2^j) (by omega)];exact Nat.and_two_pow_sub_one_eq_mod (n:=1) _
 have h3:IntKind.i64.bits=64:=rfl;rw [h3,h1];exact wri _ (by omega)
theorem pv (k:Nat):2^(2*k)=4^k:=by rw [Nat.pow_mul]
def cN3 (p:N3):List C:=[.lit (.int .u16 p.a),.lit (.int .u16 p.b),.lit (.int .u16 p.c)]
theorem fG (n:Int) (h0: -9223372036854775808<=n) (h1:n<=9223372036854775807):ch prog 12 [.one (.lit (.int .i64 n))] (.val (.agg (cS (enc (n:Rat))))):=
 eE (iv func12 (by decide) (by kernel_rfl)) [.int .i64 n] (aN (enc (n:Rat))) fun w=>jX n w h0 h1
theorem fL (x:Nat) (hx:x<65536):ch prog 28 [.one (.lit (.int .u16 x))] (.val (.agg (cS (enc (cY x))))):=
 eE (iv func28 (by decide) (by kernel_rfl)) [.int .u16 x] (aN (enc (cY x))) fun w=>qR x w hx
theorem nR (agrs:List cw) (p:N3) (i:Nat) (T:T3):(bgS agrs p i T).a.length<=T.a.length+1/\(bgS agrs p i T).b.length<=T.b.length+1/\(bgS agrs p i T).c.length<=T.c.length+1:=by
 unfold bgS T3.put;repeat' split
 all_goals (simp)
def F4:=And.intro zS (And.intro yB (And.intro tf0 (And.intro tf3 (And.intro tf4 (And.intro jS (And.intro tf5 (And.intro jT (And.intro tf7 (And.intro yC (And.intro yD (And.intro pi (And.intro jU (And.intro tu (And.intro tB (And.intro Kg (And.intro mf (And.intro xi (And.intro yE (And.intro yF (And.intro zw (And.intro I0 (And.intro u9 (And.intro yG (And.intro zA (And.intro zB (And.intro KF (pj)))))))))))))))))))))))))))
theorem F5:type_of%F4:=F4
theorem LH (e:GEst) (p:N3) (hp:p.a<65536/\p.b<65536/\p.c<65536) (hc:e.claims.length<=30) (hn:e.agrs.length<=1000000000000) (he:∀a∈e.agrs,a.length<=1000000000000/\∀t∈a,t.length<=1000000000000):ch prog 29 [.agg (bh e),.agg (cN3 p)] (.val (.one (.sh 1 (e.agrs++[bgN e p]).length (ar aU (e.agrs++[bgN e p]))))):=by
 refine bF func29 rfl (by decide) (N:=99) rfl (by simp) (R:=[.tmp 4]) rfl fun en k0=>?_
 refine awN ?_;simp only [F5,seval,bh,cN3];refine awN ?_;simp only [F5,seval];refine awN ?_;simp only [F5,seval];repeat refine ob ?_
 refine awN ?_;simp only [F5,seval];refine dE 11 0 1063 _ 46 5 (by decide) (by rfl) (by decide) (by simp) (by rfl) ?_;refine dE 11 1 2063 _ 46 5 (by decide) (by rfl) (by decide) (by simp) (by rfl) ?_;refine dE 11 2 3063 _ 46 5 (by decide) (by rfl) (by decide) (by simp) (by rfl) ?_;refine aQ [2,3,4,5,6,17,18] [2,3,11,1063,2063,3063] ?_;try simp only [aq,F5,seval,ay,List.length_append]
 repeat' first|apply awS|apply awB
 refine aB (fun n st=>∃k0 T s1 s2 s3 nx,k0<=e.claims.length/\n=e.claims.length-k0/\bgL e.agrs p (e.claims.drop k0) k0 T=bgL e.agrs p e.claims 0 ⟨[],[],[]⟩/\T.a.length<=k0/\T.b.length<=k0/\T.c.length<=k0/\st=⟨mkT [(2,.val (.one (.ptr 2 0 0))),(3,.val (.one (.ptr 3 1 0))),(4,.val (.one (.lit (.slice none 0 0)))),(5,.val (.one (.own 11 2 3 1))),(6,one (.int .i64 p.b)),(17,one (.int .i64 e.claims.length)),(18,one (.int .i64 k0))],mkH [(2,⟨0,36,5,1,bh e⟩),(3,⟨1,93,3,1,cN3 p⟩),(11,⟨2,47,1,3,[.own 1063 s1 T.a.length 5,.own 2063 s2 T.b.length 5,.own 3063 s3 T.c.length 5]⟩),(1063,⟨s1,46,5,T.a.length,ar aT T.a⟩),(2063,⟨s2,46,5,T.b.length,ar aT T.b⟩),(3063,⟨s3,46,5,T.c.length,ar aT T.c⟩)],nx,0⟩) (e.claims.length) ⟨0,⟨[],[],[]⟩,_,_,_,_,by omega,by omega,by rfl,(by first|omega|assumption|rfl|simp|(simp;omega)),(by first|omega|assumption|rfl|simp|(simp;omega)),(by first|omega|assumption|rfl|simp|(simp;omega)),rfl⟩ ?_;rintro n0 st ⟨k0,T,s1,s2,s3,nx0,hk0,rfl,hL0,hV0_1,hV0_2,hV0_3,rfl⟩;by_cases hlt0:k0<e.claims.length
 ·have hI0:(k0:Int)<(e.claims.length:Int):=by omega
  rw [List.drop_eq_getElem_cons hlt0] at hL0;have aL:=nR e.agrs p k0 T;simp only [bgL] at hL0;refine awN ?_;simp only [F5,seval,bh,cN3,hI0];refine awT ?_;refine awK ?_;simp only [F5,seval];refine awN ?_;simp only [F5,seval];have w2:IntKind.u64.wrap (2*(k0:Int))=((2*k0:Nat):Int):=by have:=qS (2*k0) (by omega);rw [←this];norm_cast
  have w3:=zL p.b (2*k0) hp.2.1 (by omega);rw [pv] at w3;change _=((bgB p k0:Nat):Int) at w3;refine awN ?_;simp only [F5,seval,w2,w3];repeat refine ob ?_
  by_cases hx:((bgB p k0:Nat):Int)=0
  ·have yhx:bgB p k0=0:=by omega
   refine awR [] [0,0,0,60,60,60,60,0] ?_;simp only [F5,seval,yhx];refine awT ?_;refine awQ ?_;simp only [F5,seval];refine awN ?_;simp only [F5,seval];repeat refine ob ?_
   refine ⟨_,aH [2,3,4,5,6,17,18] [2,3,11,1063,2063,3063],e.claims.length-(k0+1),by omega,k0+1,(bgS e.agrs p k0 T),?a9_s1,?a9_s2,?a9_s3,?a9_nx,by omega,rfl,?i9_0,?i9_1,?i9_2,?i9_3,?st9⟩;case st9=>(simp only [F5,seval,bgS,yhx];first|rfl|(simp [bgS,T3.put,bgP,ay,aT,List.length_append,List.length_cons,List.length_nil,hI0,hx,yhx,Nat.add_mul];done))
   case i9_0=>(first|exact hL0|(rw [←hL0];simp only [reduceIte,hI0,hx,yhx];done)|(rw [←hL0];simp [hI0,hx,yhx];done)|(simp [hI0,hx,yhx] at hL0;simpa using hL0)|(rw [←hL0];simp [*];done))
   all_goals (first|omega|assumption|(simp;omega)|(simp_all;done))
  have yhx:¬bgB p k0=0:=by omega
  by_cases hfr:frA k0 e.agrs=true
  ·refine awR [] [0,0,0,60,60,60,60,0] ?_;simp only [F5,seval,hx,ab bA,ab bg];refine ⟨_,(nP e k0 hn he),rfl,?_⟩;try simp only [aq,F5,seval,hfr]
   refine awF ?_;refine awK ?_;simp only [F5,seval];refine awN ?_;simp only [F5,seval];by_cases hb:((p.c/2^k0%2:Nat):Int)=1
   ·have yhb:p.c/2^k0%2=1:=by omega
    have w4:=qS k0 (by omega);have w5:=vp p.c k0 hp.2.2 (by omega);refine awN ?_;simp only [F5,seval,yhb,w4,w5];repeat refine ob ?_
    refine awT ?_;refine awN ?_;simp only [F5,seval];have w6:((p.c:Nat):Int).fdiv (2^min 6 IntKind.u16.bits)=((p.c/64:Nat):Int):=by show ((p.c:Nat):Int).fdiv 64=_;rw [Int.fdiv_eq_ediv_of_nonneg _ (by decide)];norm_cast
    have w7:((p.c/64:Nat):Int).tmod 9=((p.c/64%9:Nat):Int):=by norm_cast
    refine awN ?_;simp only [F5,seval,w6,w7];repeat refine ob ?_
    refine ⟨_,(fG ((p.c/64%9:Nat):Int) (by omega) (by omega)),rfl,?_⟩;try simp only [aq,F5,seval,cS]
    by_cases x1:((bgB p k0:Nat):Int)=1
    ·have yx1:bgB p k0=1:=by omega
     refine cf 1000 ?_;dsimp only;refine awD (scT 0 9 (scq [18,20,23,24] .nil)) [0,0,0,0,0,0,0,0,0,0,0,0,0] ?_;simp only [F5,seval,yx1];repeat refine ob ?_
     refine cf 0 ?_;dsimp only;refine awN ?_;simp only [F5,seval];repeat refine ob ?_
     refine ⟨_,aH [2,3,4,5,6,17,18] [2,3,11,1063,2063,3063],e.claims.length-(k0+1),by omega,k0+1,(bgS e.agrs p k0 T),?a17_s1,?a17_s2,?a17_s3,?a17_nx,by omega,rfl,?i17_0,?i17_1,?i17_2,?i17_3,?st17⟩;case st17=>(simp only [F5,seval,bgS,T3.put,bgP,ay,aT,List.length_append,hfr,yhb,yx1];first|rfl|(simp [bgS,T3.put,bgP,ay,aT,List.length_append,List.length_cons,List.length_nil,hI0,hx,yhx,hfr,hb,yhb,x1,yx1,Nat.add_mul];done))
     case i17_0=>(first|exact hL0|(rw [←hL0];simp only [reduceIte,hI0,hx,yhx,hfr,hb,yhb,x1,yx1];done)|(rw [←hL0];simp [hI0,hx,yhx,hfr,hb,yhb,x1,yx1];done)|(simp [hI0,hx,yhx,hfr,hb,yhb,x1,yx1] at hL0;simpa using hL0)|(rw [←hL0];simp [*];done))
     all_goals (first|omega|assumption|(simp;omega)|(simp_all;done))
    have yx1:¬bgB p k0=1:=by omega
    by_cases x2:((bgB p k0:Nat):Int)=2
    ·have yx2:bgB p k0=2:=by omega
     refine cf 2000 ?_;dsimp only;refine awD (scT 0 9 (scq [18,20,23,24] .nil)) [0,0,0,0,0,0,0,0,0,0,0,0,0] ?_;simp only [F5,seval,yx2];repeat refine ob ?_
     refine cf 0 ?_;dsimp only;refine awN ?_;simp only [F5,seval];repeat refine ob ?_
     refine ⟨_,aH [2,3,4,5,6,17,18] [2,3,11,1063,2063,3063],e.claims.length-(k0+1),by omega,k0+1,(bgS e.agrs p k0 T),?a20_s1,?a20_s2,?a20_s3,?a20_nx,by omega,rfl,?i20_0,?i20_1,?i20_2,?i20_3,?st20⟩;case st20=>(simp only [F5,seval,bgS,T3.put,bgP,ay,aT,List.length_append,hfr,yhb,yx2];first|rfl|(simp [bgS,T3.put,bgP,ay,aT,List.length_append,List.length_cons,List.length_nil,hI0,hx,yhx,hfr,hb,yhb,x1,yx1,x2,yx2,Nat.add_mul];done))
     case i20_0=>(first|exact hL0|(rw [←hL0];simp only [reduceIte,hI0,hx,yhx,hfr,hb,yhb,x1,yx1,x2,yx2];done)|(rw [←hL0];simp [hI0,hx,yhx,hfr,hb,yhb,x1,yx1,x2,yx2];done)|(simp [hI0,hx,yhx,hfr,hb,yhb,x1,yx1,x2,yx2] at hL0;simpa using hL0)|(rw [←hL0];simp [*];done))
     all_goals (first|omega|assumption|(simp;omega)|(simp_all;done))
    have yx3:bgB p k0=3:=by unfold bgB at *;omega
    have xi3:((bgB p k0:Nat):Int)=3:=by omega
    refine cf 3000 ?_;dsimp only;refine awD (scT 0 9 (scq [18,20,23,24] .nil)) [0,0,0,0,0,0,0,0,0,0,0,0,0] ?_;simp only [F5,seval,yx3];repeat refine ob ?_
    refine cf 0 ?_;dsimp only;refine awN ?_;simp only [F5,seval];repeat refine ob ?_
    refine ⟨_,aH [2,3,4,5,6,17,18] [2,3,11,1063,2063,3063],e.claims.length-(k0+1),by omega,k0+1,(bgS e.agrs p k0 T),?a23_s1,?a23_s2,?a23_s3,?a23_nx,by omega,rfl,?i23_0,?i23_1,?i23_2,?i23_3,?st23⟩;case st23=>(simp only [F5,seval,bgS,T3.put,bgP,ay,aT,List.length_append,hfr,yhb,yx3];first|rfl|(simp [bgS,T3.put,bgP,ay,aT,List.length_append,List.length_cons,List.length_nil,hI0,hx,yhx,hfr,hb,yhb,x1,yx1,x2,yx3,xi3,Nat.add_mul];done))
    case i23_0=>(first|exact hL0|(rw [←hL0];simp only [reduceIte,hI0,hx,yhx,hfr,hb,yhb,x1,yx1,x2,yx3,xi3];done)|(rw [←hL0];simp [hI0,hx,yhx,hfr,hb,yhb,x1,yx1,x2,yx3,xi3];done)|(simp [hI0,hx,yhx,hfr,hb,yhb,x1,yx1,x2,yx3,xi3] at hL0;simpa using hL0)|(rw [←hL0];simp [*];done))
    all_goals (first|omega|assumption|(simp;omega)|(simp_all;done))
   have yhb:¬p.c/2^k0%2=1:=by omega
   have w4:=qS k0 (by omega);have w5:=vp p.c k0 hp.2.2 (by omega);refine awN ?_;simp only [F5,seval,hb,w4,w5];repeat refine ob ?_
   refine awF ?_;refine awK ?_;simp only [F5,seval];by_cases x1:((bgB p k0:Nat):Int)=1
   ·have yx1:bgB p k0=1:=by omega
    refine cf 1000 ?_;dsimp only;refine awD (scT 0 9 (scq [18,20,23,24] .nil)) [0,0,0,0,0,0,0,0,0,0,0,0,0] ?_;simp only [F5,seval,yx1];repeat refine ob ?_
    refine cf 0 ?_;dsimp only;refine awN ?_;simp only [F5,seval];repeat refine ob ?_
    refine ⟨_,aH [2,3,4,5,6,17,18] [2,3,11,1063,2063,3063],e.claims.length-(k0+1),by omega,k0+1,(bgS e.agrs p k0 T),?a27_s1,?a27_s2,?a27_s3,?a27_nx,by omega,rfl,?i27_0,?i27_1,?i27_2,?i27_3,?st27⟩;case st27=>(simp only [F5,seval,bgS,T3.put,bgP,ay,aT,List.length_append,hfr,yhb,yx1];first|rfl|(simp [bgS,T3.put,bgP,ay,aT,List.length_append,List.length_cons,List.length_nil,hI0,hx,yhx,hfr,hb,yhb,x1,yx1,Nat.add_mul];done))
    case i27_0=>(first|exact hL0|(rw [←hL0];simp only [reduceIte,hI0,hx,yhx,hfr,hb,yhb,x1,yx1];done)|(rw [←hL0];simp [hI0,hx,yhx,hfr,hb,yhb,x1,yx1];done)|(simp [hI0,hx,yhx,hfr,hb,yhb,x1,yx1] at hL0;simpa using hL0)|(rw [←hL0];simp [*];done))
    all_goals (first|omega|assumption|(simp;omega)|(simp_all;done))
   have yx1:¬bgB p k0=1:=by omega
   by_cases x2:((bgB p k0:Nat):Int)=2
   ·have yx2:bgB p k0=2:=by omega
    refine cf 2000 ?_;dsimp only;refine awD (scT 0 9 (scq [18,20,23,24] .nil)) [0,0,0,0,0,0,0,0,0,0,0,0,0] ?_;simp only [F5,seval,yx2];repeat refine ob ?_
    refine cf 0 ?_;dsimp only;refine awN ?_;simp only [F5,seval];repeat refine ob ?_
    refine ⟨_,aH [2,3,4,5,6,17,18] [2,3,11,1063,2063,3063],e.claims.length-(k0+1),by omega,k0+1,(bgS e.agrs p k0 T),?a30_s1,?a30_s2,?a30_s3,?a30_nx,by omega,rfl,?i30_0,?i30_1,?i30_2,?i30_3,?st30⟩;case st30=>(simp only [F5,seval,bgS,T3.put,bgP,ay,aT,List.length_append,hfr,yhb,yx2];first|rfl|(simp [bgS,T3.put,bgP,ay,aT,List.length_append,List.length_cons,List.length_nil,hI0,hx,yhx,hfr,hb,yhb,x1,yx1,x2,yx2,Nat.add_mul];done))
    case i30_0=>(first|exact hL0|(rw [←hL0];simp only [reduceIte,hI0,hx,yhx,hfr,hb,yhb,x1,yx1,x2,yx2];done)|(rw [←hL0];simp [hI0,hx,yhx,hfr,hb,yhb,x1,yx1,x2,yx2];done)|(simp [hI0,hx,yhx,hfr,hb,yhb,x1,yx1,x2,yx2] at hL0;simpa using hL0)|(rw [←hL0];simp [*];done))
    all_goals (first|omega|assumption|(simp;omega)|(simp_all;done))
   have yx3:bgB p k0=3:=by unfold bgB at *;omega
   have xi3:((bgB p k0:Nat):Int)=3:=by omega
   refine cf 3000 ?_;dsimp only;refine awD (scT 0 9 (scq [18,20,23,24] .nil)) [0,0,0,0,0,0,0,0,0,0,0,0,0] ?_;simp only [F5,seval,yx3];repeat refine ob ?_
   refine cf 0 ?_;dsimp only;refine awN ?_;simp only [F5,seval];repeat refine ob ?_
   refine ⟨_,aH [2,3,4,5,6,17,18] [2,3,11,1063,2063,3063],e.claims.length-(k0+1),by omega,k0+1,(bgS e.agrs p k0 T),?a33_s1,?a33_s2,?a33_s3,?a33_nx,by omega,rfl,?i33_0,?i33_1,?i33_2,?i33_3,?st33⟩;case st33=>(simp only [F5,seval,bgS,T3.put,bgP,ay,aT,List.length_append,hfr,yhb,yx3];first|rfl|(simp [bgS,T3.put,bgP,ay,aT,List.length_append,List.length_cons,List.length_nil,hI0,hx,yhx,hfr,hb,yhb,x1,yx1,x2,yx3,xi3,Nat.add_mul];done))
   case i33_0=>(first|exact hL0|(rw [←hL0];simp only [reduceIte,hI0,hx,yhx,hfr,hb,yhb,x1,yx1,x2,yx3,xi3];done)|(rw [←hL0];simp [hI0,hx,yhx,hfr,hb,yhb,x1,yx1,x2,yx3,xi3];done)|(simp [hI0,hx,yhx,hfr,hb,yhb,x1,yx1,x2,yx3,xi3] at hL0;simpa using hL0)|(rw [←hL0];simp [*];done))
   all_goals (first|omega|assumption|(simp;omega)|(simp_all;done))
  refine awR [] [0,0,0,60,60,60,60,0] ?_;simp only [F5,seval,hx,ab bA,ab bg];refine ⟨_,(nP e k0 hn he),rfl,?_⟩;try simp only [aq,F5,seval,hfr]
  refine awT ?_;refine awQ ?_;simp only [F5,seval];refine awN ?_;simp only [F5,seval];repeat refine ob ?_
  refine ⟨_,aH [2,3,4,5,6,17,18] [2,3,11,1063,2063,3063],e.claims.length-(k0+1),by omega,k0+1,(bgS e.agrs p k0 T),?a36_s1,?a36_s2,?a36_s3,?a36_nx,by omega,rfl,?i36_0,?i36_1,?i36_2,?i36_3,?st36⟩;case st36=>(simp only [F5,seval,bgS,yhx,hfr];first|rfl|(simp [bgS,T3.put,bgP,ay,aT,List.length_append,List.length_cons,List.length_nil,hI0,hx,yhx,hfr,Nat.add_mul];done))
  case i36_0=>(first|exact hL0|(rw [←hL0];simp only [reduceIte,hI0,hx,yhx,hfr];done)|(rw [←hL0];simp [hI0,hx,yhx,hfr];done)|(simp [hI0,hx,yhx,hfr] at hL0;simpa using hL0)|(rw [←hL0];simp [*];done))
  all_goals (first|omega|assumption|(simp;omega)|(simp_all;done))
 obtain rfl:k0=e.claims.length:=by omega
 have hI0:¬(e.claims.length:Int)<(e.claims.length:Int):=by omega
 rw [List.drop_length] at hL0;simp only [bgL] at hL0;refine awN ?_;simp only [F5,seval,bh,cN3,hI0];refine awF ?_;refine awQ ?_;simp only [F5,seval];by_cases hr:((p.a/8%4:Nat):Int)=0
 ·have yhr:p.a/8%4=0:=by omega
  have w8:IntKind.u16.wrap ((p.a:Int).tdiv 8)=((p.a/8:Nat):Int):=by have:=kk (p.a/8) (by omega);rw [←this];norm_cast
  have w9:((p.a/8:Nat):Int).tmod 4=((p.a/8%4:Nat):Int):=by norm_cast
  refine awN ?_;simp only [F5,seval,yhr,w8,w9];refine awT ?_;have wa:IntKind.u16.wrap ((p.a:Int).tdiv 32)=((p.a/32:Nat):Int):=by have:=kk (p.a/32) (by omega);rw [←this];norm_cast
  have wb:((p.a/32:Nat):Int).tmod 3=((p.a/32%3:Nat):Int):=by norm_cast
  refine awN ?_;simp only [F5,seval,wa,wb];repeat refine ob ?_
  by_cases z0:((p.a/32%3:Nat):Int)=0
  ·have yz0:p.a/32%3=0:=by omega
   have wc:IntKind.u16.wrap ((p.a:Int).tdiv 96)=((p.a/96:Nat):Int):=by have:=kk (p.a/96) (by omega);rw [←this];norm_cast
   have wd:((p.a/96:Nat):Int).tmod 7=((p.a/96%7:Nat):Int):=by norm_cast
   refine awD (scT 0 11 (scq [22,25,26,28,31,32] .nil)) [0,0,0,0,0,0,0,0,0,0,0,0,0,0,0,0,0] ?_;simp only [F5,seval,yz0,wc,wd];repeat refine ob ?_
   refine ⟨_,(fG ((p.a/96%7:Nat):Int) (by omega) (by omega)),rfl,?_⟩;try simp only [aq,F5,seval,cS]
   repeat refine ob ?_
   refine ao 90 11 0 (by rfl) (by rfl) (by rfl) (by decide) (by show (5:Nat)≠0;decide) (by show (1:Nat)≠0;decide) rfl ?_;refine ao 2063 11 1 (by rfl) (by rfl) (by rfl) (by decide) (by show (5:Nat)≠0;decide) (by show (1:Nat)≠0;decide) rfl ?_;refine ao 3063 11 2 (by rfl) (by rfl) (by rfl) (by decide) (by show (5:Nat)≠0;decide) (by show (1:Nat)≠0;decide) rfl ?_;refine dL (t:=5) (by rfl) (by rfl) (by decide) (by rfl) ?_;simp only [F5,seval];refine awN ?_;simp only [F5,seval];repeat refine ob ?_
   refine awX ?_;simp only [F5,seval];simp [bgN,←hL0,bgT,T3.put,aU,aV,aY,ej,bo,aT,pg,av,az,ab bg,ab eJ,yhr,yz0]
  have yz0:¬p.a/32%3=0:=by omega
  by_cases z1:((p.a/32%3:Nat):Int)=1
  ·have yz1:p.a/32%3=1:=by omega
   have wc:IntKind.u16.wrap ((p.a:Int).tdiv 96)=((p.a/96:Nat):Int):=by have:=kk (p.a/96) (by omega);rw [←this];norm_cast
   have wd:((p.a/96:Nat):Int).tmod 7=((p.a/96%7:Nat):Int):=by norm_cast
   refine awD (scT 0 11 (scq [22,25,26,28,31,32] .nil)) [0,0,0,0,0,0,0,0,0,0,0,0,0,0,0,0,0] ?_;simp only [F5,seval,yz1,wc,wd];repeat refine ob ?_
   refine ⟨_,(fG ((p.a/96%7:Nat):Int) (by omega) (by omega)),rfl,?_⟩;try simp only [aq,F5,seval,cS]
   repeat refine ob ?_
   refine ao 1063 11 0 (by rfl) (by rfl) (by rfl) (by decide) (by show (5:Nat)≠0;decide) (by show (1:Nat)≠0;decide) rfl ?_;refine ao 90 11 1 (by rfl) (by rfl) (by rfl) (by decide) (by show (5:Nat)≠0;decide) (by show (1:Nat)≠0;decide) rfl ?_;refine ao 3063 11 2 (by rfl) (by rfl) (by rfl) (by decide) (by show (5:Nat)≠0;decide) (by show (1:Nat)≠0;decide) rfl ?_;refine dL (t:=5) (by rfl) (by rfl) (by decide) (by rfl) ?_;simp only [F5,seval];refine awN ?_;simp only [F5,seval];repeat refine ob ?_
   refine awX ?_;simp only [F5,seval];simp [bgN,←hL0,bgT,T3.put,aU,aV,aY,ej,bo,aT,pg,av,az,ab bg,ab eJ,yhr,yz1]
  have yz2:p.a/32%3=2:=by omega
  have zi2:((p.a/32%3:Nat):Int)=2:=by omega
  have wc:IntKind.u16.wrap ((p.a:Int).tdiv 96)=((p.a/96:Nat):Int):=by have:=kk (p.a/96) (by omega);rw [←this];norm_cast
  have wd:((p.a/96:Nat):Int).tmod 7=((p.a/96%7:Nat):Int):=by norm_cast
  refine awD (scT 0 11 (scq [22,25,26,28,31,32] .nil)) [0,0,0,0,0,0,0,0,0,0,0,0,0,0,0,0,0] ?_;simp only [F5,seval,yz2,wc,wd];repeat refine ob ?_
  refine ⟨_,(fG ((p.a/96%7:Nat):Int) (by omega) (by omega)),rfl,?_⟩;try simp only [aq,F5,seval,cS]
  repeat refine ob ?_
  refine ao 1063 11 0 (by rfl) (by rfl) (by rfl) (by decide) (by show (5:Nat)≠0;decide) (by show (1:Nat)≠0;decide) rfl ?_;refine ao 2063 11 1 (by rfl) (by rfl) (by rfl) (by decide) (by show (5:Nat)≠0;decide) (by show (1:Nat)≠0;decide) rfl ?_;refine ao 90 11 2 (by rfl) (by rfl) (by rfl) (by decide) (by show (5:Nat)≠0;decide) (by show (1:Nat)≠0;decide) rfl ?_;refine dL (t:=5) (by rfl) (by rfl) (by decide) (by rfl) ?_;simp only [F5,seval];refine awN ?_;simp only [F5,seval];repeat refine ob ?_
  refine awX ?_;simp only [F5,seval];simp [bgN,←hL0,bgT,T3.put,aU,aV,aY,ej,bo,aT,pg,av,az,ab bg,ab eJ,yhr,yz2]
 have yhr:¬p.a/8%4=0:=by omega
 have w8:IntKind.u16.wrap ((p.a:Int).tdiv 8)=((p.a/8:Nat):Int):=by have:=kk (p.a/8) (by omega);rw [←this];norm_cast
 have w9:((p.a/8:Nat):Int).tmod 4=((p.a/8%4:Nat):Int):=by norm_cast
 refine awN ?_;simp only [F5,seval,hr,w8,w9];refine awF ?_;refine awK ?_;simp only [F5,seval];refine ao 1063 11 0 (by rfl) (by rfl) (by rfl) (by decide) (by show (5:Nat)≠0;decide) (by show (1:Nat)≠0;decide) rfl ?_;refine ao 2063 11 1 (by rfl) (by rfl) (by rfl) (by decide) (by show (5:Nat)≠0;decide) (by show (1:Nat)≠0;decide) rfl ?_;refine ao 3063 11 2 (by rfl) (by rfl) (by rfl) (by decide) (by show (5:Nat)≠0;decide) (by show (1:Nat)≠0;decide) rfl ?_;refine dL (t:=5) (by rfl) (by rfl) (by decide) (by rfl) ?_;simp only [F5,seval];refine awN ?_;simp only [F5,seval];repeat refine ob ?_
 refine awX ?_;simp only [F5,seval];simp [bgN,←hL0,bgT,aU,aY,ej,bo,pg,av,az,ab bg,ab eJ,yhr]
end Go.Proofs.YtcgpghifhehlhaaGreatDoor
