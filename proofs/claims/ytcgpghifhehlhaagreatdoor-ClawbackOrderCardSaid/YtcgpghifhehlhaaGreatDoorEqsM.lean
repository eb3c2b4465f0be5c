/- Numbers, claims and parts compared with themselves. No walk. -/
import Derived.Test.YtcgpghifhehlhaaGreatDoorAbGM
import Derived.Test.YtcgpghifhehlhaaGreatDoorJfM
import Derived.ProofKit
import Derived.OpenShut
import Derived.Deep.Slices
import Derived.Test.YtcgpghifhehlhaaGreatDoorProg
import Derived.Deep.Strs
set_option linter.unusedVariables false
set_option linter.unusedSimpArgs false
namespace Go.Proofs.YtcgpghifhehlhaaGreatDoor
open Go Go.RowKit

end Go.Proofs.YtcgpghifhehlhaaGreatDoor
namespace Go.Proofs.YtcgpghifhehlhaaGreatDoor
open Go.RowKit Go.ChangeShapes Go.WideShapes Go.ChangeAt
theorem mg {H:Type} {enc:TypeId×Value->H} {P:Program} (hl:laidOutB P=true) {W W':World} (hb:Below W.heap.size W W'):
  ∀(ts:List TypeId) (vs:List Value) (ds:List (DataW H)) (ps:List MemPlace),(∀t∈ts,P.readableRec t=true/\t<P.types.size)->(∀p∈ps,p.block<W.heap.size)->
   DataW.TrodAll enc P W 0 (fun _=>true) true ts vs ds ps->DataW.TrodAll enc P W' 0 (fun b=>decide (b<W.heap.size)) true ts vs ds ps:=by
 intro ts;induction ts with
 |nil=>
  intro vs ds ps _ _ h;obtain ⟨rfl,rfl,rfl⟩:=trodAll_nil h;exact trodAll_mk0
 |cons t ts ih=>
  intro vs ds ps hts hps h;obtain ⟨v,vs',d,ds',p,q,rfl,rfl,rfl,h0,h1⟩:=trodAll_cons h;have ht:=hts t (by simp);refine trodAll_cons_mk ?_ (ih _ _ _ (fun t' ht'=>hts t' (by simp [ht'])) (fun x hx=>hps x (by simp [hx])) h1);exact Below.trod hl ht.1 ht.2 h0 hb (fun x hx=>hps x (by simp [hx]))
theorem vi {H:Type} {enc:TypeId×Value->H} {P:Program} {fn:Func} {s:ChangeSpec} {W W':World} {args:Array Value} {ds:List (DataW H)} {before:List MemPlace} {bt:TypeId}
  (hl:laidOutB P=true) (hts:fn.params.toList.all (fun t=>P.readableRec t&&decide (t<P.types.size))=true) (hvars:s.vars=[])
  (hW:DataW.Whole enc P fn.params.toList s.vars false W args.toList ds [] before)
  (hres:(s.fn H (ds++[])).results=[.lit (.bool true)]) (hargs:(s.fn H (ds++[])).args=ds) (hrv:(s.fn H (ds++[])).vars=[])
  (hrt:fn.resultTypes= #[bt]) (hbt:P.underlying bt=some .bool) (hb:Below W.heap.size W W'):s.post enc P fn false true false false W args (.bool true) W':=by
 have hW0:=hW;obtain ⟨p,q,hA,hV,rfl,_,_⟩:=hW;rw [hvars] at hV;obtain ⟨_,hq⟩:=trodVars_none hV;have hlt:=hW0.lt;refine ⟨ds,[],p++q,[],p,[],hW0,?_,?_,?_,?_,fun h=>by cases h⟩
 ·rw [hres,hrt];exact trodAll_mk1 (shut_bool hbt true)
 ·rw [hargs];exact mg hl hb _ _ _ _ (fun t ht=>by have:=List.all_eq_true.1 hts t ht;simpa using this) (fun x hx=>hlt x (by simp [hx])) hA
 ·rw [hrv,hvars];rfl
 exact hb.frame _
def fD (P:Program) (t:TypeId) {α:Type} (R:dW α):Prop:=
 ∀(H:Type) (enc:TypeId×Value->H) (W:World) (fuel:Nat) (cs:List Value) (x:DataW H×List MemPlace),DataW.trod enc P W 0 (fun _=>true) true fuel t cs=some x->∃a,R W (LT W.heap.size) cs a
theorem pr {P:Program} {t e:TypeId} {α:Type} {R:dW α} {sz:Nat} (ht:P.underlying t=some (.slice e)) (hc:P.cellsOf e=sz) (hsz:0<sz) (he:fD P e R):fD P t (ax sz R):=by
 intro H enc W fuel cs x h;rcases Deep.open_slice ht h with ⟨rfl,_⟩|⟨a,len,cap,m,n,D,Pl,rfl,hb,hl,hm,hmm,_,hx⟩
 ·exact ⟨[],none,0,rfl,by simp,by unfold maxLen;omega,fun _=>rfl,.inl rfl⟩
 rw [if_pos rfl] at hmm;subst hmm;rw [hc] at hx;have hel:∀i,i<len->∃cs,cs.length=sz/\(∀c,c<sz->W.cell? ((a.add (i*sz)).add c)=cs[c]?)/\∃y,R W (LT W.heap.size) cs y:=by
  intro i hi;obtain ⟨cs',h1,h2⟩:=hx i (by omega);obtain ⟨_,h3,h4⟩:=World.cells?_some h1;exact ⟨cs',h3,h4,he H enc W n cs' _ h2⟩
 rcases Nat.eq_zero_or_pos len with hlen|hlen
 ·subst hlen;exact ⟨[],some a,_,rfl,by simp,hm,by simp,.inl rfl⟩
 obtain ⟨cs0,e1,e2,_⟩:=hel 0 hlen;have e3:=e2 0 hsz;rw [List.getElem?_eq_getElem (by omega)] at e3;simp only [Nat.zero_mul,Addr.add,if_pos] at e3;have hspot:a.spot=none:=by
  unfold World.cell? at e3;cases hsp:a.spot with
  |none=>rfl
  |some s=>rw [hsp] at e3;split at e3<;>simp at e3
 have hblk:=World.block_lt_of_cell? _ _ e3;obtain ⟨b,off,sp⟩:=a;simp only at hspot hblk;subst hspot;have hadd:∀i c,((⟨b,off,none⟩:Addr).add (i*sz)).add c=⟨b,off+i*sz+c,none⟩:=by
  intro i c;unfold Addr.add;by_cases hi:i*sz=0<;>by_cases hcc:c=0<;>simp [hi,hcc]
 let f:Fin len->α:=fun i=>(hel i.1 i.2).choose_spec.2.2.choose
 refine ⟨List.ofFn f,some ⟨b,off,none⟩,_,by simp,by simpa using hl,hm,by simp,.inr ⟨b,off,rfl,hblk,fun j hj=>?_⟩⟩;have hj':j<len:=by simpa using hj
 have h5:=(hel j hj').choose_spec;refine ⟨_,h5.1,fun c hc=>by rw [←hadd];exact h5.2.1 c hc,?_⟩;have h6:=h5.2.2.choose_spec;simpa [f] using h6
theorem tE {P:Program} {t:TypeId} (ht:P.underlying t=some (.int .u16)):fD P t zd:=by
 intro H enc W fuel cs x h;obtain ⟨n,rfl,_,hw⟩:=DataW.trod_int ht h;have:0<=n/\n<=65535:=by simpa [Lit.wf,IntKind.min,IntKind.max,IntKind.signed,IntKind.bits] using hw
 exact ⟨n.toNat,by rw [show ((n.toNat:Nat):Int)=n by omega],by omega⟩
theorem fE {P:Program} {t e:TypeId} {α:Type} {R:dW α} {H:Type} {enc:TypeId×Value->H} {W:World} {v:Value} {d:DataW H} {p:List MemPlace} {base:Nat} {rc:Reach}
  (ht:P.underlying t=some (.slice e)) (hok:Value.okWide P W rc base t v) (ho:fD P t R) (h:DataW.Trod enc P W 0 (fun _=>true) true t v d p):∃l,R W (LT W.heap.size) [v] l:=by
 obtain ⟨a,len,cap,rfl⟩:=okWide_slice ht hok;obtain ⟨fuel,h⟩:=h;exact ho H enc W fuel _ _ h

end Go.Proofs.YtcgpghifhehlhaaGreatDoor
namespace Go.Proofs.YtcgpghifhehlhaaGreatDoor
open Go.RowKit Go.ChangeShapes Go.WideShapes Go.ChangeAt Go
def rC {α:Type} (enc:α->List C) (ok:α->Prop):dW α:=fun W T cs a=>denVs (kIn W T W) cs (enc a)/\ok a
def cSl {α:Type} (sz:Nat) (enc:α->List C) (l:List α):List C:=[.sh sz l.length (ar enc l)]
def nO {α:Type} (ok:α->Prop) (l:List α):Prop:=l.length<=maxLen/\∀a∈l,ok a
theorem kg {κ:Kx} {b:Nat}:∀{xs ys:List C} {off:Nat},denM κ b off xs->denM κ b (off+xs.length) ys->denM κ b off (xs++ys)
 |[],ys,off,_,h=>by simpa using h
 |x::xs,ys,off,h,k=>by
  simp only [denM,List.cons_append] at h ⊢;refine ⟨h.1,kg h.2 ?_⟩;rw [List.length_cons] at k;rwa [Nat.add_assoc,Nat.add_comm 1]
theorem mO {α:Type} {enc:α->List C} {sz:Nat} (hlen:∀a,(enc a).length=sz) {κ:Kx} {b:Nat}:
  ∀(l:List α) (off:Nat),(∀j (h:j<l.length),∃cs,cs.length=sz/\(∀c,c<sz->κ.w.cell? ⟨b,off+j*sz+c,none⟩=cs[c]?)/\denVs κ cs (enc l[j]))->denM κ b off (ar enc l)
 |[],_,_=>by simp [ar,denM]
 |a::l,off,h=>by
  rw [aY];refine kg ?_ ?_
  ·obtain ⟨cs,h1,h2,h3⟩:=h 0 (by simp);refine denM.of_vals h3 fun j u hj=>?_
   have hlt:j<sz:=by rw [←h1];exact (List.getElem?_eq_some_iff.1 hj).1
   have:=h2 j hlt;rw [←hj,←this];simp
  rw [hlen];refine mO hlen l (off+sz) fun j hj=>?_
  obtain ⟨cs,h1,h2,h3⟩:=h (j+1) (by simpa using hj);refine ⟨cs,h1,fun c hc=>?_,by simpa using h3⟩;rw [←h2 c hc];congr 2;rw [Nat.succ_mul];omega
theorem pt {P:Program} {t e:TypeId} {α:Type} {enc:α->List C} {ok:α->Prop} {sz:Nat} (ht:P.underlying t=some (.slice e)) (hc:P.cellsOf e=sz) (hsz:0<sz) (hlen:∀a,(enc a).length=sz)
  (he:fD P e (rC enc ok)):fD P t (rC (cSl sz enc) (nO ok)):=by
 intro H nc W fuel cs x h;obtain ⟨l,a,cap,rfl,h1,h2,h3,h4⟩:=pr ht hc hsz he H nc W fuel cs x h;have hl:l.length<=maxLen:=Nat.le_trans h1 h2;rcases h4 with rfl|⟨b,off,rfl,hb,hall⟩
 ·exact ⟨[],⟨⟨a,cap,rfl,h1,h2,h3,by simp [ar],.inl rfl⟩,trivial⟩,hl,fun _ h=>by cases h⟩
 refine ⟨l,⟨⟨_,cap,rfl,h1,h2,h3,aS hlen l,.inr ⟨b,off,rfl,kO hb,mO hlen l off fun j hj=>?_⟩⟩,trivial⟩,hl,fun y hy=>?_⟩
 ·obtain ⟨cs,k1,k2,k3⟩:=hall j hj;exact ⟨cs,k1,k2,k3.1⟩
 obtain ⟨j,hj,rfl⟩:=List.getElem_of_mem hy;obtain ⟨cs,k1,k2,k3⟩:=hall j hj;exact k3.2
end Go.Proofs.YtcgpghifhehlhaaGreatDoor
namespace Go.Proofs.YtcgpghifhehlhaaGreatDoor
open Go Go.RowKit

end Go.Proofs.YtcgpghifhehlhaaGreatDoor
