/- From a walked law to its row: the arguments opened into plain readings; what stands behind the call. No program in sight. -/
import Derived.Test.YtcgpghifhehlhaaGreatDoorJfM
import Derived.ProofKit
import Derived.OpenShut
import Derived.Deep.Slices
import Derived.Test.YtcgpghifhehlhaaGreatDoorProg
import Derived.Deep.Strs
import Derived.Test.YtcgpghifhehlhaaGreatDoorAbGM
set_option linter.unusedVariables false
set_option maxHeartbeats 4000000
set_option linter.unusedSimpArgs false
set_option linter.defProp false
namespace Go.Proofs.YtcgpghifhehlhaaGreatDoor
open Go.RowKit Go.ChangeShapes Go.WideShapes Go.ChangeAt Go.Proofs.Tryz
theorem mg {H:Type} {enc:TypeId×Value->H} {P:Program} (hl:laidOutB P=true) {W W':World} (hb:Below W.heap.size W W'):
  ∀(ts:List TypeId) (vs:List Value) (ds:List (DataW H)) (ps:List MemPlace),(∀t∈ts,P.readableRec t=true/\t<P.types.size)->(∀p∈ps,p.block<W.heap.size)->
   DataW.TrodAll enc P W 0 (fun _=>true) true ts vs ds ps->DataW.TrodAll enc P W' 0 (fun b=>decide (b<W.heap.size)) true ts vs ds ps:=by
 intro ts;induction ts with
 |nil=>
  intro vs ds ps _ _ h;obtain ⟨rfl,rfl,rfl⟩:=trodAll_nil h;exact trodAll_mk0
 |cons t ts ih=>
  intro vs ds ps hts hps h;obtain ⟨v,vs',d,ds',p,q,rfl,rfl,rfl,h0,h1⟩:=trodAll_cons h;have ht:=hts t (by simp);refine trodAll_cons_mk ?_ (ih _ _ _ (fun t' ht'=>hts t' (by simp [ht'])) (fun x hx=>hps x (by simp [hx])) h1);exact Below.trod hl ht.1 ht.2 h0 hb (fun x hx=>hps x (by simp [hx]))
theorem vi {H:Type} {enc:TypeId×Value->H} {P:Program} {fn:Func} {s:ChangeSpec} {W W':World} {args:Array Value} {ds:List (DataW H)} {before:List MemPlace} {bt:TypeId}
  (hl:laidOutB P=true) (hts:fn.params.toList.all (fun t=>P.readableRec t&&decide (t<P.types.size))=true) (hvars:s.vars=[])
  (hW:DataW.Whole enc P fn.params.toList s.vars false W args.toList ds [] before)
  (hres:(s.fn H (ds++[])).results=[.lit (.bool true)]) (hargs:(s.fn H (ds++[])).args=ds) (hrv:(s.fn H (ds++[])).vars=[])
  (hrt:fn.resultTypes= #[bt]) (hbt:P.underlying bt=some .bool) (hb:Below W.heap.size W W'):s.post enc P fn false true false false W args (.bool true) W':=by
 have hW0:=hW;obtain ⟨p,q,hA,hV,rfl,_,_⟩:=hW;rw [hvars] at hV;obtain ⟨_,hq⟩:=trodVars_none hV;have hlt:=hW0.lt;refine ⟨ds,[],p++q,[],p,[],hW0,?_,?_,?_,?_,fun h=>by cases h⟩
 ·rw [hres,hrt];exact trodAll_mk1 (shut_bool hbt true)
 ·rw [hargs];exact mg hl hb _ _ _ _ (fun t ht=>by have:=List.all_eq_true.1 hts t ht;simpa using this) (fun x hx=>hlt x (by simp [hx])) hA
 ·rw [hrv,hvars];rfl
 exact hb.frame _
def fD (P:Program) (t:TypeId) {α:Type} (R:dW α):Prop:=
 ∀(H:Type) (enc:TypeId×Value->H) (W:World) (fuel:Nat) (cs:List Value) (x:DataW H×List MemPlace),DataW.trod enc P W 0 (fun _=>true) true fuel t cs=some x->∃a,R W (LT W.heap.size) cs a
theorem pr {P:Program} {t e:TypeId} {α:Type} {R:dW α} {sz:Nat} (ht:P.underlying t=some (.slice e)) (hc:P.cellsOf e=sz) (hsz:0<sz) (he:fD P e R):fD P t (ax sz R):=by
 intro H enc W fuel cs x h;rcases Deep.open_slice ht h with ⟨rfl,_⟩|⟨a,len,cap,m,n,D,Pl,rfl,hb,hl,hm,hmm,_,hx⟩
 ·exact ⟨[],none,0,rfl,by simp,by unfold maxLen;omega,fun _=>rfl,.inl rfl⟩
 rw [if_pos rfl] at hmm;subst hmm;rw [hc] at hx;have hel:∀i,i<len->∃cs,cs.length=sz/\(∀c,c<sz->W.cell? ((a.add (i*sz)).add c)=cs[c]?)/\∃y,R W (LT W.heap.size) cs y:=by
  intro i hi;obtain ⟨cs',h1,h2⟩:=hx i (by omega);obtain ⟨_,h3,h4⟩:=World.cells?_some h1;exact ⟨cs',h3,h4,he H enc W n cs' _ h2⟩
 rcases Nat.eq_zero_or_pos len with hlen|hlen
 ·subst hlen;exact ⟨[],some a,_,rfl,by simp,hm,by simp,.inl rfl⟩
 obtain ⟨cs0,e1,e2,_⟩:=hel 0 hlen;have e3:=e2 0 hsz;rw [List.getElem?_eq_getElem (by omega)] at e3;simp only [Nat.zero_mul,Addr.add,if_pos] at e3;have hspot:a.spot=none:=by
  unfold World.cell? at e3;cases hsp:a.spot with
  |none=>rfl
  |some s=>rw [hsp] at e3;split at e3<;>simp at e3
 have hblk:=World.block_lt_of_cell? _ _ e3;obtain ⟨b,off,sp⟩:=a;simp only at hspot hblk;subst hspot;have hadd:∀i c,((⟨b,off,none⟩:Addr).add (i*sz)).add c=⟨b,off+i*sz+c,none⟩:=by
  intro i c;unfold Addr.add;by_cases hi:i*sz=0<;>by_cases hcc:c=0<;>simp [hi,hcc]
 let f:Fin len->α:=fun i=>(hel i.1 i.2).choose_spec.2.2.choose
 refine ⟨List.ofFn f,some ⟨b,off,none⟩,_,by simp,by simpa using hl,hm,by simp,.inr ⟨b,off,rfl,hblk,fun j hj=>?_⟩⟩;have hj':j<len:=by simpa using hj
 have h5:=(hel j hj').choose_spec;refine ⟨_,h5.1,fun c hc=>by rw [←hadd];exact h5.2.1 c hc,?_⟩;have h6:=h5.2.2.choose_spec;simpa [f] using h6
theorem vj {P:Program} {t:TypeId} (ht:P.underlying t=some (.int .u8)):fD P t rU8:=by
 intro H enc W fuel cs x h;obtain ⟨n,rfl,_,hw⟩:=DataW.trod_int ht h;have:0<=n/\n<=255:=by simpa [Lit.wf,IntKind.min,IntKind.max,IntKind.signed,IntKind.bits] using hw
 exact ⟨n.toNat,by rw [show ((n.toNat:Nat):Int)=n by omega],by omega⟩
theorem tE {P:Program} {t:TypeId} (ht:P.underlying t=some (.int .u16)):fD P t zd:=by
 intro H enc W fuel cs x h;obtain ⟨n,rfl,_,hw⟩:=DataW.trod_int ht h;have:0<=n/\n<=65535:=by simpa [Lit.wf,IntKind.min,IntKind.max,IntKind.signed,IntKind.bits] using hw
 exact ⟨n.toNat,by rw [show ((n.toNat:Nat):Int)=n by omega],by omega⟩
theorem fE {P:Program} {t e:TypeId} {α:Type} {R:dW α} {H:Type} {enc:TypeId×Value->H} {W:World} {v:Value} {d:DataW H} {p:List MemPlace} {base:Nat} {rc:Reach}
  (ht:P.underlying t=some (.slice e)) (hok:Value.okWide P W rc base t v) (ho:fD P t R) (h:DataW.Trod enc P W 0 (fun _=>true) true t v d p):∃l,R W (LT W.heap.size) [v] l:=by
 obtain ⟨a,len,cap,rfl⟩:=okWide_slice ht hok;obtain ⟨fuel,h⟩:=h;exact ho H enc W fuel _ _ h
theorem fk {P:Program} {t:TypeId} {k:IntKind} {α:Type} {R:dW α} {H:Type} {enc:TypeId×Value->H} {W:World} {v:Value} {d:DataW H} {p:List MemPlace} {base:Nat} {rc:Reach}
  (ht:P.underlying t=some (.int k)) (hok:Value.okWide P W rc base t v) (ho:fD P t R) (h:DataW.Trod enc P W 0 (fun _=>true) true t v d p):∃l,R W (LT W.heap.size) [v] l:=by
 obtain ⟨n,rfl⟩:=okWide_int ht hok;obtain ⟨fuel,h⟩:=h;exact ho H enc W fuel _ _ h

end Go.Proofs.YtcgpghifhehlhaaGreatDoor
namespace Go.Proofs.YtcgpghifhehlhaaGreatDoor
open Go.RowKit Go.ChangeShapes Go.WideShapes Go.ChangeAt Go Go.Proofs.Tryz
def rC {α:Type} (enc:α->List C) (ok:α->Prop):dW α:=fun W T cs a=>denVs (kIn W T W) cs (enc a)/\ok a
def cSl {α:Type} (sz:Nat) (enc:α->List C) (l:List α):List C:=[.sh sz l.length (ar enc l)]
def nO {α:Type} (ok:α->Prop) (l:List α):Prop:=l.length<=maxLen/\∀a∈l,ok a
theorem kg {κ:Kx} {b:Nat}:∀{xs ys:List C} {off:Nat},denM κ b off xs->denM κ b (off+xs.length) ys->denM κ b off (xs++ys)
 |[],ys,off,_,h=>by simpa using h
 |x::xs,ys,off,h,k=>by
  simp only [denM,List.cons_append] at h ⊢;refine ⟨h.1,kg h.2 ?_⟩;rw [List.length_cons] at k;rwa [Nat.add_assoc,Nat.add_comm 1]
theorem mO {α:Type} {enc:α->List C} {sz:Nat} (hlen:∀a,(enc a).length=sz) {κ:Kx} {b:Nat}:
  ∀(l:List α) (off:Nat),(∀j (h:j<l.length),∃cs,cs.length=sz/\(∀c,c<sz->κ.w.cell? ⟨b,off+j*sz+c,none⟩=cs[c]?)/\denVs κ cs (enc l[j]))->denM κ b off (ar enc l)
 |[],_,_=>by simp [ar,denM]
 |a::l,off,h=>by
  rw [aY];refine kg ?_ ?_
  ·obtain ⟨cs,h1,h2,h3⟩:=h 0 (by simp);refine denM.of_vals h3 fun j u hj=>?_
   have hlt:j<sz:=by rw [←h1];exact (List.getElem?_eq_some_iff.1 hj).1
   have:=h2 j hlt;rw [←hj,←this];simp
  rw [hlen];refine mO hlen l (off+sz) fun j hj=>?_
  obtain ⟨cs,h1,h2,h3⟩:=h (j+1) (by simpa using hj);refine ⟨cs,h1,fun c hc=>?_,by simpa using h3⟩;rw [←h2 c hc];congr 2;rw [Nat.succ_mul];omega
theorem pt {P:Program} {t e:TypeId} {α:Type} {enc:α->List C} {ok:α->Prop} {sz:Nat} (ht:P.underlying t=some (.slice e)) (hc:P.cellsOf e=sz) (hsz:0<sz) (hlen:∀a,(enc a).length=sz)
  (he:fD P e (rC enc ok)):fD P t (rC (cSl sz enc) (nO ok)):=by
 intro H nc W fuel cs x h;obtain ⟨l,a,cap,rfl,h1,h2,h3,h4⟩:=pr ht hc hsz he H nc W fuel cs x h;have hl:l.length<=maxLen:=Nat.le_trans h1 h2;rcases h4 with rfl|⟨b,off,rfl,hb,hall⟩
 ·exact ⟨[],⟨⟨a,cap,rfl,h1,h2,h3,by simp [ar],.inl rfl⟩,trivial⟩,hl,fun _ h=>by cases h⟩
 refine ⟨l,⟨⟨_,cap,rfl,h1,h2,h3,aS hlen l,.inr ⟨b,off,rfl,kO hb,mO hlen l off fun j hj=>?_⟩⟩,trivial⟩,hl,fun y hy=>?_⟩
 ·obtain ⟨cs,k1,k2,k3⟩:=hall j hj;exact ⟨cs,k1,k2,k3.1⟩
 obtain ⟨j,hj,rfl⟩:=List.getElem_of_mem hy;obtain ⟨cs,k1,k2,k3⟩:=hall j hj;exact k3.2
end Go.Proofs.YtcgpghifhehlhaaGreatDoor
namespace Go.Proofs.YtcgpghifhehlhaaGreatDoor
open Go Go.RowKit Go.Proofs.Tryz
def frP (c:Int):List GPart->Bool
 |[]=>true
 |p::l=>if p.claim=c then false else frP c l
def frT (c:Int):List (List GPart)->Bool
 |[]=>true
 |t::l=>if frP c t=true then frT c l else false
def frA (c:Int):List cw->Bool
 |[]=>true
 |a::l=>if frT c a=true then frA c l else false
def tkL (i c:Int):List Leg->Bool
 |[]=>false
 |x::l=>if x.1=i then (if x.2=c then true else tkL i c l) else tkL i c l
def tkD (i c:Int):List GDebt->Bool
 |[]=>false
 |d::l=>if tkL i c d.legs=true then true else tkD i c l
def F0:=And.intro zS (And.intro tf0 (And.intro tf1 (And.intro tf2 (And.intro tf3 (And.intro tf4 (And.intro tf5 (And.intro tf6 (And.intro tf7 (And.intro tf8 (And.intro tf9 (And.intro pi (And.intro tu (And.intro xd (And.intro u4 (And.intro hZ (And.intro u5 (pj)))))))))))))))))
theorem F1:type_of%F0:=F0
theorem nP (e:GEst) (c:Int) (hn:e.agrs.length<=1000000000000) (he:∀a∈e.agrs,a.length<=1000000000000/\∀t∈a,t.length<=1000000000000):ch prog 64 [.agg (bh e),.one (.lit (.int .i64 c))] (one (.bool (frA c e.agrs))):=by
 refine bF func64 rfl (by decide) (N:=38) rfl (by simp) (R:=[.tmp 4]) rfl fun en k0=>?_
 refine awN ?_;simp only [F1,seval,bh];refine awN ?_;simp only [F1,seval];refine aQ [1,2,12,13,14] [2] ?_;try simp only [aq,F1,seval]
 repeat' first|apply awS|apply awB
 refine aB (fun n st=>∃k0 nx,k0<=e.agrs.length/\n=e.agrs.length-k0/\frA c (e.agrs.drop k0)=frA c e.agrs/\st=⟨mkT [(1,one (.int .i64 c)),(2,.val (.one (.ptr 2 0 0))),(12,.val (.one (.sh 1 e.agrs.length (ar aU e.agrs)))),(13,one (.int .i64 e.agrs.length)),(14,one (.int .i64 k0))],mkH [(2,⟨0,36,5,1,bh e⟩)],nx,0⟩) (e.agrs.length) ⟨0,_,by omega,by omega,by rfl,rfl⟩ ?_;rintro n0 st ⟨k0,nx0,hk0,rfl,hL0,rfl⟩;by_cases hlt0:k0<e.agrs.length
 ·skip;have hI0:(k0:Int)<(e.agrs.length:Int):=by omega
  have hat0:=aO dG e.agrs k0 hlt0;try rw [Nat.mul_one] at hat0
  rw [List.drop_eq_getElem_cons hlt0] at hL0;have hA:=he _ (List.getElem_mem hlt0);generalize e.agrs[k0]=a at *
  simp only [frA] at hL0;refine awN ?_;simp only [F1,seval,bh,hI0];refine awT ?_;refine awK ?_;simp only [F1,seval];refine awN ?_;simp only [F1,seval,hI0,hat0,aU];repeat refine ob ?_
  refine awN ?_;simp only [F1,seval];refine aQ [1,2,12,13,14,19,20,21] [2] ?_;try simp only [aq,F1,seval]
  repeat' first|apply awS|apply awB
  refine aB (fun n st=>∃k1 nx,k1<=a.length/\n=a.length-k1/\frT c (a.drop k1)=frT c a/\st=⟨mkT [(1,one (.int .i64 c)),(2,.val (.one (.ptr 2 0 0))),(12,.val (.one (.sh 1 e.agrs.length (ar aU e.agrs)))),(13,one (.int .i64 e.agrs.length)),(14,one (.int .i64 k0)),(19,.val (.one (.sh 1 a.length (ar bo a)))),(20,one (.int .i64 a.length)),(21,one (.int .i64 k1))],mkH [(2,⟨0,36,5,1,bh e⟩)],nx,0⟩) (a.length) ⟨0,_,by omega,by omega,by rfl,rfl⟩ ?_;rintro n1 st ⟨k1,nx1,hk1,rfl,hL1,rfl⟩;by_cases hlt1:k1<a.length
  ·skip;have hI1:(k1:Int)<(a.length:Int):=by omega
   have hat1:=aO eI a k1 hlt1;try rw [Nat.mul_one] at hat1
   rw [List.drop_eq_getElem_cons hlt1] at hL1;have hn3:=hA.2 _ (List.getElem_mem hlt1);generalize a[k1]=t at *
   simp only [frT] at hL1;refine awN ?_;simp only [F1,seval,bh,hI1];refine awT ?_;refine awK ?_;simp only [F1,seval];refine awN ?_;simp only [F1,seval,hI1,hat1,bo];repeat refine ob ?_
   refine awN ?_;simp only [F1,seval];refine aQ [1,2,12,13,14,19,20,21,25,26,27] [2] ?_;try simp only [aq,F1,seval]
   repeat' first|apply awS|apply awB
   refine aB (fun n st=>∃k2 nx,k2<=t.length/\n=t.length-k2/\frP c (t.drop k2)=frP c t/\st=⟨mkT [(1,one (.int .i64 c)),(2,.val (.one (.ptr 2 0 0))),(12,.val (.one (.sh 1 e.agrs.length (ar aU e.agrs)))),(13,one (.int .i64 e.agrs.length)),(14,one (.int .i64 k0)),(19,.val (.one (.sh 1 a.length (ar bo a)))),(20,one (.int .i64 a.length)),(21,one (.int .i64 k1)),(25,.val (.one (.sh 5 t.length (ar aT t)))),(26,one (.int .i64 t.length)),(27,one (.int .i64 k2))],mkH [(2,⟨0,36,5,1,bh e⟩)],nx,0⟩) (t.length) ⟨0,_,by omega,by omega,by rfl,rfl⟩ ?_;rintro n2 st ⟨k2,nx2,hk2,rfl,hL2,rfl⟩;by_cases hlt2:k2<t.length
   ·skip;have hI2:(k2:Int)<(t.length:Int):=by omega
    have hat2:=aO gj t k2 hlt2;try rw [Nat.mul_one] at hat2
    rw [List.drop_eq_getElem_cons hlt2] at hL2;generalize t[k2]=p at *
    simp only [frP] at hL2;refine awN ?_;simp only [F1,seval,bh,hI2];refine awT ?_;refine awK ?_;simp only [F1,seval];refine awN ?_;simp only [F1,seval,hI2,hat2,aT];repeat refine ob ?_
    by_cases h1:p.claim=c
    ·skip;refine awN ?_;simp only [F1,seval,h1];refine awT ?_;refine awN ?_;simp only [F1,seval];refine awX ?_;(first|(simp only [F1,seval,h1,←hL0,←hL1,←hL2];done)|(simp only [F1,seval,bh];first|(simp [hI0,hat0,hI1,hat1,hI2,hat2,h1,←hL0,←hL1,←hL2];done)|(simp [hI0,hat0,hI1,hat1,hI2,hat2,h1];done)|(rw [←hL0,←hL1,←hL2];simp [hI0,hat0,hI1,hat1,hI2,hat2,h1];done)))
    skip;refine awN ?_;simp only [F1,seval,h1];refine awF ?_;refine awK ?_;simp only [F1,seval];refine awN ?_;simp only [F1,seval];repeat refine ob ?_
    refine ⟨_,aH [1,2,12,13,14,19,20,21,25,26,27] [2],t.length-(k2+1),by omega,k2+1,?a15_nx,by omega,rfl,?i15_0,?st15⟩;case st15=>(simp only [F1,seval];first|rfl|(simp [Nat.add_mul];done))
    case i15_0=>(first|exact hL2|(rw [←hL2];simp only [reduceIte,h1];done)|(rw [←hL2];simp [hI0,hat0,hI1,hat1,hI2,hat2,h1];done)|(simp [hI0,hat0,hI1,hat1,hI2,hat2,h1] at hL2;simpa using hL2)|(rw [←hL2];simp [*];done))
   skip;obtain rfl:k2=t.length:=by omega
   have hI2:¬(t.length:Int)<(t.length:Int):=by omega
   rw [List.drop_length] at hL2;simp only [frP] at hL2;refine awN ?_;simp only [F1,seval,bh,hI2];refine awF ?_;refine awQ ?_;simp only [F1,seval];refine awN ?_;simp only [F1,seval];repeat refine ob ?_
   refine ⟨_,aH [1,2,12,13,14,19,20,21] [2],a.length-(k1+1),by omega,k1+1,?a18_nx,by omega,rfl,?i18_0,?st18⟩;case st18=>(simp only [F1,seval];first|rfl|(simp [Nat.add_mul];done))
   case i18_0=>(first|exact hL1|(rw [←hL1];simp [←hL2];done)|(rw [←hL1];simp only [reduceIte,hI0,hat0,hI1,hat1,hI2];done)|(rw [←hL1];simp [hI0,hat0,hI1,hat1,hI2];done)|(simp [hI0,hat0,hI1,hat1,hI2] at hL1;simpa using hL1)|(rw [←hL1];simp [*];done))
  skip;obtain rfl:k1=a.length:=by omega
  have hI1:¬(a.length:Int)<(a.length:Int):=by omega
  rw [List.drop_length] at hL1;simp only [frT] at hL1;refine awN ?_;simp only [F1,seval,bh,hI1];refine awF ?_;refine awQ ?_;simp only [F1,seval];refine awN ?_;simp only [F1,seval];repeat refine ob ?_
  refine ⟨_,aH [1,2,12,13,14] [2],e.agrs.length-(k0+1),by omega,k0+1,?a21_nx,by omega,rfl,?i21_0,?st21⟩;case st21=>(simp only [F1,seval];first|rfl|(simp [Nat.add_mul];done))
  case i21_0=>(first|exact hL0|(rw [←hL0];simp [←hL1];done)|(rw [←hL0];simp only [reduceIte,hI0,hat0,hI1];done)|(rw [←hL0];simp [hI0,hat0,hI1];done)|(simp [hI0,hat0,hI1] at hL0;simpa using hL0)|(rw [←hL0];simp [*];done))
 skip;obtain rfl:k0=e.agrs.length:=by omega
 have hI0:¬(e.agrs.length:Int)<(e.agrs.length:Int):=by omega
 rw [List.drop_length] at hL0;simp only [frA] at hL0;refine awN ?_;simp only [F1,seval,bh,hI0];refine awF ?_;refine awQ ?_;simp only [F1,seval];refine awN ?_;simp only [F1,seval];refine awX ?_;(first|(simp only [F1,seval,←hL0];done)|(simp only [F1,seval,bh];first|(simp [hI0,←hL0];done)|(simp [hI0];done)|(rw [←hL0];simp [hI0];done)))
def F2:=And.intro zS (And.intro u6 (And.intro u7 (And.intro pk (And.intro tv (And.intro tw (And.intro pl (And.intro tx (And.intro tz (And.intro pm (And.intro tA (And.intro xe (And.intro xf (And.intro hZ (And.intro xg (xh)))))))))))))))
theorem F3:type_of%F2:=F2
theorem nQ (g:GGrp) (i c:Int) (hn:g.debts.length<=1000000000000) (he:∀d∈g.debts,d.legs.length<=1000000000000):ch prog 65 [.agg (au g),.one (.lit (.int .i64 i)),.one (.lit (.int .i64 c))] (one (.bool (tkD i c g.debts))):=by
 refine bF func65 rfl (by decide) (N:=37) rfl (by simp) (R:=[.tmp 6]) rfl fun en k0=>?_
 refine awN ?_;simp only [F3,seval,au];refine awN ?_;simp only [F3,seval];refine aQ [1,2,3,12,13,14] [3] ?_;try simp only [aq,F3,seval]
 repeat' first|apply awS|apply awB
 refine aB (fun n st=>∃k0 nx,k0<=g.debts.length/\n=g.debts.length-k0/\tkD i c (g.debts.drop k0)=tkD i c g.debts/\st=⟨mkT [(1,one (.int .i64 i)),(2,one (.int .i64 c)),(3,.val (.one (.ptr 3 0 0))),(12,.val (.one (.sh 4 g.debts.length (ar cn g.debts)))),(13,one (.int .i64 g.debts.length)),(14,one (.int .i64 k0))],mkH [(3,⟨0,28,2,1,au g⟩)],nx,0⟩) (g.debts.length) ⟨0,_,by omega,by omega,by rfl,rfl⟩ ?_;rintro n0 st ⟨k0,nx0,hk0,rfl,hL0,rfl⟩;by_cases hlt0:k0<g.debts.length
 ·have hI0:(k0:Int)<(g.debts.length:Int):=by omega
  have hat0:=aO dT g.debts k0 hlt0;try rw [Nat.mul_one] at hat0
  rw [List.drop_eq_getElem_cons hlt0] at hL0;have hA:=he _ (List.getElem_mem hlt0);generalize g.debts[k0]=d at *
  simp only [tkD] at hL0;refine awN ?_;simp only [F3,seval,au,hI0];refine awT ?_;refine awK ?_;simp only [F3,seval];refine awN ?_;simp only [F3,seval,hI0,hat0,cn];repeat refine ob ?_
  refine awN ?_;simp only [F3,seval];refine aQ [1,2,3,12,13,14,19,20,21] [3] ?_;try simp only [aq,F3,seval]
  repeat' first|apply awS|apply awB
  refine aB (fun n st=>∃k1 nx,k1<=d.legs.length/\n=d.legs.length-k1/\tkL i c (d.legs.drop k1)=tkL i c d.legs/\st=⟨mkT [(1,one (.int .i64 i)),(2,one (.int .i64 c)),(3,.val (.one (.ptr 3 0 0))),(12,.val (.one (.sh 4 g.debts.length (ar cn g.debts)))),(13,one (.int .i64 g.debts.length)),(14,one (.int .i64 k0)),(19,.val (.one (.sh 2 d.legs.length (ar bp d.legs)))),(20,one (.int .i64 d.legs.length)),(21,one (.int .i64 k1))],mkH [(3,⟨0,28,2,1,au g⟩)],nx,0⟩) (d.legs.length) ⟨0,_,by omega,by omega,by rfl,rfl⟩ ?_;rintro n1 st ⟨k1,nx1,hk1,rfl,hL1,rfl⟩;by_cases hlt1:k1<d.legs.length
  ·have hI1:(k1:Int)<(d.legs.length:Int):=by omega
   have hat1:=aO cr d.legs k1 hlt1;try rw [Nat.mul_one] at hat1
   rw [List.drop_eq_getElem_cons hlt1] at hL1;generalize d.legs[k1]=x at *
   simp only [tkL] at hL1;refine awN ?_;simp only [F3,seval,au,hI1];refine awT ?_;refine awK ?_;simp only [F3,seval];refine awN ?_;simp only [F3,seval,hI1,hat1,bp];repeat refine ob ?_
   by_cases h1:x.1=i
   ·by_cases h2:x.2=c
    ·refine awR [] [0,0,0,0,0,61,61,61,61,0] ?_;simp only [F3,seval,h1,h2];refine awT ?_;refine awN ?_;simp only [F3,seval];refine awX ?_;(first|(simp only [F3,seval,h1,h2,←hL0,←hL1];done)|(simp only [F3,seval,au];first|(simp [hI0,hat0,hI1,hat1,h1,h2,←hL0,←hL1];done)|(simp [hI0,hat0,hI1,hat1,h1,h2];done)|(rw [←hL0,←hL1];simp [hI0,hat0,hI1,hat1,h1,h2];done)))
    refine awR [] [0,0,0,0,0,61,61,61,61,0] ?_;simp only [F3,seval,h1,h2];refine awF ?_;refine awK ?_;simp only [F3,seval];refine awN ?_;simp only [F3,seval];repeat refine ob ?_
    refine ⟨_,aH [1,2,3,12,13,14,19,20,21] [3],d.legs.length-(k1+1),by omega,k1+1,?a12_nx,by omega,rfl,?i12_0,?st12⟩;case st12=>(simp only [F3,seval];first|rfl|(simp [Nat.add_mul];done))
    case i12_0=>(first|exact hL1|(rw [←hL1];simp only [reduceIte,h1,h2];done)|(rw [←hL1];simp [hI0,hat0,hI1,hat1,h1,h2];done)|(simp [hI0,hat0,hI1,hat1,h1,h2] at hL1;simpa using hL1)|(rw [←hL1];simp [*];done))
   refine awR [] [0,0,0,0,0,61,61,61,61,0] ?_;simp only [F3,seval,h1];refine awF ?_;refine awK ?_;simp only [F3,seval];refine awN ?_;simp only [F3,seval];repeat refine ob ?_
   refine ⟨_,aH [1,2,3,12,13,14,19,20,21] [3],d.legs.length-(k1+1),by omega,k1+1,?a15_nx,by omega,rfl,?i15_0,?st15⟩;case st15=>(simp only [F3,seval];first|rfl|(simp [Nat.add_mul];done))
   case i15_0=>(first|exact hL1|(rw [←hL1];simp only [reduceIte,h1];done)|(rw [←hL1];simp [hI0,hat0,hI1,hat1,h1];done)|(simp [hI0,hat0,hI1,hat1,h1] at hL1;simpa using hL1)|(rw [←hL1];simp [*];done))
  obtain rfl:k1=d.legs.length:=by omega
  have hI1:¬(d.legs.length:Int)<(d.legs.length:Int):=by omega
  rw [List.drop_length] at hL1;simp only [tkL] at hL1;refine awN ?_;simp only [F3,seval,au,hI1];refine awF ?_;refine awQ ?_;simp only [F3,seval];refine awN ?_;simp only [F3,seval];repeat refine ob ?_
  refine ⟨_,aH [1,2,3,12,13,14] [3],g.debts.length-(k0+1),by omega,k0+1,?a18_nx,by omega,rfl,?i18_0,?st18⟩;case st18=>(simp only [F3,seval];first|rfl|(simp [Nat.add_mul];done))
  case i18_0=>(first|exact hL0|(rw [←hL0];simp [←hL1];done)|(rw [←hL0];simp only [reduceIte,hI0,hat0,hI1];done)|(rw [←hL0];simp [hI0,hat0,hI1];done)|(simp [hI0,hat0,hI1] at hL0;simpa using hL0)|(rw [←hL0];simp [*];done))
 obtain rfl:k0=g.debts.length:=by omega
 have hI0:¬(g.debts.length:Int)<(g.debts.length:Int):=by omega
 rw [List.drop_length] at hL0;simp only [tkD] at hL0;refine awN ?_;simp only [F3,seval,au,hI0];refine awF ?_;refine awQ ?_;simp only [F3,seval];refine awN ?_;simp only [F3,seval];refine awX ?_;(first|(simp only [F3,seval,←hL0];done)|(simp only [F3,seval,au];first|(simp [hI0,←hL0];done)|(simp [hI0];done)|(rw [←hL0];simp [hI0];done)))
end Go.Proofs.YtcgpghifhehlhaaGreatDoor
