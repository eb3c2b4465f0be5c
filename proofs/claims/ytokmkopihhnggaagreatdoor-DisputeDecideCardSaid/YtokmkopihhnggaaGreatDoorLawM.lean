/- From a walked law to its row: the arguments opened into plain readings; what stands behind the call. No program in sight. -/
import Derived.Test.YtokmkopihhnggaaGreatDoorJfM
import Derived.ProofKit
import Derived.OpenShut
import Derived.Deep.Slices
import Derived.Test.YtokmkopihhnggaaGreatDoorProg
import Derived.Deep.Strs
import Derived.Test.YtokmkopihhnggaaGreatDoorAbGM
import Derived.Shelf.Sort.Plain
import Derived.Shelf.Slices.CompactI
import Derived.Shelf.Slices.In.SortNone
import Derived.Sort.OwnSortedInts
import Derived.Lib.RowBridge
set_option linter.unusedVariables false
set_option maxHeartbeats 1000000
set_option linter.unusedSimpArgs false
set_option linter.defProp false
namespace Go.Proofs.YtokmkopihhnggaaGreatDoor
open Go.RowKit Go.ChangeShapes Go.WideShapes Go.ChangeAt Go.Proofs.Tryz
theorem qT {H:Type} {enc:TypeId×Value->H} {P:Program} (hl:laidOutB P=true) {W W':World} (hb:Below W.heap.size W W'):
  ∀(ts:List TypeId) (vs:List Value) (ds:List (DataW H)) (ps:List MemPlace),(∀t∈ts,P.readableRec t=true/\t<P.types.size)->(∀p∈ps,p.block<W.heap.size)->
   DataW.TrodAll enc P W 0 (fun _=>true) true ts vs ds ps->DataW.TrodAll enc P W' 0 (fun b=>decide (b<W.heap.size)) true ts vs ds ps:=by
 intro ts;induction ts with
 |nil=>
  intro vs ds ps _ _ h;obtain ⟨rfl,rfl,rfl⟩:=trodAll_nil h;exact trodAll_mk0
 |cons t ts ih=>
  intro vs ds ps hts hps h;obtain ⟨v,vs',d,ds',p,q,rfl,rfl,rfl,h0,h1⟩:=trodAll_cons h;have ht:=hts t (by simp);refine trodAll_cons_mk ?_ (ih _ _ _ (fun t' ht'=>hts t' (by simp [ht'])) (fun x hx=>hps x (by simp [hx])) h1);exact Below.trod hl ht.1 ht.2 h0 hb (fun x hx=>hps x (by simp [hx]))
theorem CT {H:Type} {enc:TypeId×Value->H} {P:Program} {fn:Func} {s:ChangeSpec} {W W':World} {args:Array Value} {ds:List (DataW H)} {before:List MemPlace} {bt:TypeId}
  (hl:laidOutB P=true) (hts:fn.params.toList.all (fun t=>P.readableRec t&&decide (t<P.types.size))=true) (hvars:s.vars=[])
  (hW:DataW.Whole enc P fn.params.toList s.vars false W args.toList ds [] before)
  (hres:(s.fn H (ds++[])).results=[.lit (.bool true)]) (hargs:(s.fn H (ds++[])).args=ds) (hrv:(s.fn H (ds++[])).vars=[])
  (hrt:fn.resultTypes= #[bt]) (hbt:P.underlying bt=some .bool) (hb:Below W.heap.size W W'):s.post enc P fn false true false false W args (.bool true) W':=by
 have hW0:=hW;obtain ⟨p,q,hA,hV,rfl,_,_⟩:=hW;rw [hvars] at hV;obtain ⟨_,hq⟩:=trodVars_none hV;have hlt:=hW0.lt;refine ⟨ds,[],p++q,[],p,[],hW0,?_,?_,?_,?_,fun h=>by cases h⟩
 ·rw [hres,hrt];exact trodAll_mk1 (shut_bool hbt true)
 ·rw [hargs];exact qT hl hb _ _ _ _ (fun t ht=>by have:=List.all_eq_true.1 hts t ht;simpa using this) (fun x hx=>hlt x (by simp [hx])) hA
 ·rw [hrv,hvars];rfl
 exact hb.frame _
def eI (P:Program) (t:TypeId) {α:Type} (R:fo α):Prop:=
 ∀(H:Type) (enc:TypeId×Value->H) (W:World) (fuel:Nat) (cs:List Value) (x:DataW H×List MemPlace),DataW.trod enc P W 0 (fun _=>true) true fuel t cs=some x->∃a,R W (LT W.heap.size) cs a
theorem vn {P:Program} {t e:TypeId} {α:Type} {R:fo α} {sz:Nat} (ht:P.underlying t=some (.slice e)) (hc:P.cellsOf e=sz) (hsz:0<sz) (he:eI P e R):eI P t (aH sz R):=by
 intro H enc W fuel cs x h;rcases Deep.open_slice ht h with ⟨rfl,_⟩|⟨a,len,cap,m,n,D,Pl,rfl,hb,hl,hm,hmm,_,hx⟩
 ·exact ⟨[],none,0,rfl,by simp,by unfold maxLen;omega,fun _=>rfl,.inl rfl⟩
 rw [if_pos rfl] at hmm;subst hmm;rw [hc] at hx;have hel:∀i,i<len->∃cs,cs.length=sz/\(∀c,c<sz->W.cell? ((a.add (i*sz)).add c)=cs[c]?)/\∃y,R W (LT W.heap.size) cs y:=by
  intro i hi;obtain ⟨cs',h1,h2⟩:=hx i (by omega);obtain ⟨_,h3,h4⟩:=World.cells?_some h1;exact ⟨cs',h3,h4,he H enc W n cs' _ h2⟩
 rcases Nat.eq_zero_or_pos len with hlen|hlen
 ·subst hlen;exact ⟨[],some a,_,rfl,by simp,hm,by simp,.inl rfl⟩
 obtain ⟨cs0,e1,e2,_⟩:=hel 0 hlen;have e3:=e2 0 hsz;rw [List.getElem?_eq_getElem (by omega)] at e3;simp only [Nat.zero_mul,Addr.add,if_pos] at e3;have hspot:a.spot=none:=by
  unfold World.cell? at e3;cases hsp:a.spot with
  |none=>rfl
  |some s=>rw [hsp] at e3;split at e3<;>simp at e3
 have hblk:=World.block_lt_of_cell? _ _ e3;obtain ⟨b,off,sp⟩:=a;simp only at hspot hblk;subst hspot;have hadd:∀i c,((⟨b,off,none⟩:Addr).add (i*sz)).add c=⟨b,off+i*sz+c,none⟩:=by
  intro i c;unfold Addr.add;by_cases hi:i*sz=0<;>by_cases hcc:c=0<;>simp [hi,hcc]
 let f:Fin len->α:=fun i=>(hel i.1 i.2).choose_spec.2.2.choose
 refine ⟨List.ofFn f,some ⟨b,off,none⟩,_,by simp,by simpa using hl,hm,by simp,.inr ⟨b,off,rfl,hblk,fun j hj=>?_⟩⟩;have hj':j<len:=by simpa using hj
 have h5:=(hel j hj').choose_spec;refine ⟨_,h5.1,fun c hc=>by rw [←hadd];exact h5.2.1 c hc,?_⟩;have h6:=h5.2.2.choose_spec;simpa [f] using h6
theorem Mg {P:Program} {t:TypeId} (ht:P.underlying t=some (.int .u8)):eI P t rU8:=by
 intro H enc W fuel cs x h;obtain ⟨n,rfl,_,hw⟩:=DataW.trod_int ht h;have:0<=n/\n<=255:=by simpa [Lit.wf,IntKind.min,IntKind.max,IntKind.signed,IntKind.bits] using hw
 exact ⟨n.toNat,by rw [show ((n.toNat:Nat):Int)=n by omega],by omega⟩
theorem LL {P:Program} {t:TypeId} (ht:P.underlying t=some (.int .u16)):eI P t NR:=by
 intro H enc W fuel cs x h;obtain ⟨n,rfl,_,hw⟩:=DataW.trod_int ht h;have:0<=n/\n<=65535:=by simpa [Lit.wf,IntKind.min,IntKind.max,IntKind.signed,IntKind.bits] using hw
 exact ⟨n.toNat,by rw [show ((n.toNat:Nat):Int)=n by omega],by omega⟩
theorem kZ {P:Program} {t e:TypeId} {α:Type} {R:fo α} {H:Type} {enc:TypeId×Value->H} {W:World} {v:Value} {d:DataW H} {p:List MemPlace} {base:Nat} {rc:Reach}
  (ht:P.underlying t=some (.slice e)) (hok:Value.okWide P W rc base t v) (ho:eI P t R) (h:DataW.Trod enc P W 0 (fun _=>true) true t v d p):∃l,R W (LT W.heap.size) [v] l:=by
 obtain ⟨a,len,cap,rfl⟩:=okWide_slice ht hok;obtain ⟨fuel,h⟩:=h;exact ho H enc W fuel _ _ h
theorem xl {P:Program} {t:TypeId} {k:IntKind} {α:Type} {R:fo α} {H:Type} {enc:TypeId×Value->H} {W:World} {v:Value} {d:DataW H} {p:List MemPlace} {base:Nat} {rc:Reach}
  (ht:P.underlying t=some (.int k)) (hok:Value.okWide P W rc base t v) (ho:eI P t R) (h:DataW.Trod enc P W 0 (fun _=>true) true t v d p):∃l,R W (LT W.heap.size) [v] l:=by
 obtain ⟨n,rfl⟩:=okWide_int ht hok;obtain ⟨fuel,h⟩:=h;exact ho H enc W fuel _ _ h

end Go.Proofs.YtokmkopihhnggaaGreatDoor
namespace Go.Proofs.YtokmkopihhnggaaGreatDoor
open Go.RowKit Go.ChangeShapes Go.WideShapes Go.ChangeAt Go Go.Proofs.Tryz
def rC {α:Type} (enc:α->List C) (ok:α->Prop):fo α:=fun W T cs a=>denVs (kIn W T W) cs (enc a)/\ok a
def cSl {α:Type} (sz:Nat) (enc:α->List C) (l:List α):List C:=[.sh sz l.length (aA enc l)]
def qU {α:Type} (ok:α->Prop) (l:List α):Prop:=l.length<=maxLen/\∀a∈l,ok a
theorem nK {κ:Kx} {b:Nat}:∀{xs ys:List C} {off:Nat},denM κ b off xs->denM κ b (off+xs.length) ys->denM κ b off (xs++ys)
 |[],ys,off,_,h=>by simpa using h
 |x::xs,ys,off,h,k=>by
  simp only [denM,List.cons_append] at h ⊢;refine ⟨h.1,nK h.2 ?_⟩;rw [List.length_cons] at k;rwa [Nat.add_assoc,Nat.add_comm 1]
theorem rQ {α:Type} {enc:α->List C} {sz:Nat} (hlen:∀a,(enc a).length=sz) {κ:Kx} {b:Nat}:
  ∀(l:List α) (off:Nat),(∀j (h:j<l.length),∃cs,cs.length=sz/\(∀c,c<sz->κ.w.cell? ⟨b,off+j*sz+c,none⟩=cs[c]?)/\denVs κ cs (enc l[j]))->denM κ b off (aA enc l)
 |[],_,_=>by simp [aA,denM]
 |a::l,off,h=>by
  rw [cf];refine nK ?_ ?_
  ·obtain ⟨cs,h1,h2,h3⟩:=h 0 (by simp);refine denM.of_vals h3 fun j u hj=>?_
   have hlt:j<sz:=by rw [←h1];exact (List.getElem?_eq_some_iff.1 hj).1
   have:=h2 j hlt;rw [←hj,←this];simp
  rw [hlen];refine rQ hlen l (off+sz) fun j hj=>?_
  obtain ⟨cs,h1,h2,h3⟩:=h (j+1) (by simpa using hj);refine ⟨cs,h1,fun c hc=>?_,by simpa using h3⟩;rw [←h2 c hc];congr 2;rw [Nat.succ_mul];omega
theorem JL {P:Program} {t e:TypeId} {α:Type} {enc:α->List C} {ok:α->Prop} {sz:Nat} (ht:P.underlying t=some (.slice e)) (hc:P.cellsOf e=sz) (hsz:0<sz) (hlen:∀a,(enc a).length=sz)
  (he:eI P e (rC enc ok)):eI P t (rC (cSl sz enc) (qU ok)):=by
 intro H nc W fuel cs x h;obtain ⟨l,a,cap,rfl,h1,h2,h3,h4⟩:=vn ht hc hsz he H nc W fuel cs x h;have hl:l.length<=maxLen:=Nat.le_trans h1 h2;rcases h4 with rfl|⟨b,off,rfl,hb,hall⟩
 ·exact ⟨[],⟨⟨a,cap,rfl,h1,h2,h3,by simp [aA],.inl rfl⟩,trivial⟩,hl,fun _ h=>by cases h⟩
 refine ⟨l,⟨⟨_,cap,rfl,h1,h2,h3,bo hlen l,.inr ⟨b,off,rfl,oJ hb,rQ hlen l off fun j hj=>?_⟩⟩,trivial⟩,hl,fun y hy=>?_⟩
 ·obtain ⟨cs,k1,k2,k3⟩:=hall j hj;exact ⟨cs,k1,k2,k3.1⟩
 obtain ⟨j,hj,rfl⟩:=List.getElem_of_mem hy;obtain ⟨cs,k1,k2,k3⟩:=hall j hj;exact k3.2
end Go.Proofs.YtokmkopihhnggaaGreatDoor
namespace Go.Proofs.YtokmkopihhnggaaGreatDoor
open Go Go.RowKit Go.Proofs.Tryz
def eb (t:List GPart):Bool:=decide (24<t.length)
def vj (ts:List (List GPart)) (k:Nat):Int:=match ts with
 |[]=> -1
 |t::ts=>if eb t then (k:Int) else vj ts (k+1)
theorem ED (ts:List (List GPart)) (k:Nat):decide (0<=vj ts k)=ts.any eb:=by
 induction ts generalizing k with
 |nil=>rfl
 |cons t ts ih=>
  simp only [vj,List.any_cons];by_cases h:eb t=true
  ·simp [h]
  simp only [h];simpa using ih (k+1)
def A3:C:= .lit (.func (.func 120) #[] #[])
def F0:=And.intro zS (tf0)
theorem F1:type_of%F0:=F0
theorem Gs (t:List GPart) (h:t.length<=1000000000000):aR prog 120 [.one (.sh 5 t.length (aA bT t))] (one (.bool (eb t))):=by
 unfold eb;cases hl:decide (24<t.length)
 ·have hI:¬(24:Int)<(t.length:Int):=by have:=of_decide_eq_false hl;omega
  refine aP func120 rfl (by decide) (N:=6) rfl (by simp) (R:=[.tmp 2]) rfl fun en k0=>?_
  refine awN ?_;simp only [F1,seval];refine awN ?_;simp only [F1,seval,hI];refine awX ?_;simp only [F1,seval]
 have hI:(24:Int)<(t.length:Int):=by have:=of_decide_eq_true hl;omega
 refine aP func120 rfl (by decide) (N:=6) rfl (by simp) (R:=[.tmp 2]) rfl fun en k0=>?_
 refine awN ?_;simp only [F1,seval];refine awN ?_;simp only [F1,seval,hI];refine awX ?_;simp only [F1,seval]
def F2:=And.intro zS (And.intro tf1 (And.intro tf2 (tf3)))
theorem F3:type_of%F2:=F2
theorem vk (ts:List (List GPart)) (hn:ts.length<=1000000000000) (ht:∀t∈ts,t.length<=1000000000000):
  aR prog 158 [.one (.sh 1 ts.length (aA bD ts)),.one A3] (one (.int .i64 (vj ts 0))):=by
 refine aP func158 rfl (by decide) (N:=19) rfl (by simp) (R:=[.tmp 4]) rfl fun en k0=>?_
 refine awN ?_;simp only [F3,seval];refine awN ?_;simp only [F3,seval];refine aQ [0,1,7,8] [] ?_;simp only [F3,seval];repeat' first|apply awS|apply awB
 refine aM (fun n st=>∃k nx,k<=ts.length/\n=ts.length-k/\vj (ts.drop k) k=vj ts 0/\st=⟨mkT [(0,.val (.one (.sh 1 ts.length (aA bD ts)))),(1,.val (.one A3)),(7,one (.int .i64 ts.length)),(8,one (.int .i64 k))],mkH [],nx,0⟩) ts.length ⟨0,_,by omega,by omega,rfl,rfl⟩ ?_;rintro n st ⟨k,nx,hk,rfl,hL,rfl⟩;by_cases hlt:k<ts.length
 ·have hI:(k:Int)<(ts.length:Int):=by omega
  have hat:=aO eA ts k hlt;rw [List.drop_eq_getElem_cons hlt] at hL;have hm:=ht ts[k] (List.getElem_mem hlt);rw [Nat.mul_one] at hat;generalize ts[k]=t at *
  have hC:=Gs t hm;simp only [vj] at hL;cases hlo:eb t
  ·rw [hlo] at hL hC;refine awN ?_;simp only [F3,seval,hI];refine awT ?_;refine awK ?_;simp only [F3,seval];refine awN ?_;simp only [F3,seval];refine awN ?_;simp only [F3,seval,hat,bD,A3];repeat refine ob ?_
   refine ⟨ab d9 t,_,hC,rfl,?_⟩;simp only [ak,F3,seval];refine awF ?_;refine awK ?_;simp only [F3,seval];refine awN ?_;simp only [F3,seval];repeat refine ob ?_
   refine ⟨_,aI [0,1,7,8] [],ts.length-(k+1),by omega,k+1,nx,by omega,rfl,?_,?_⟩
   ·simpa using hL
   simp only [F3,seval];try rfl
  rw [hlo] at hL hC;simp only [if_true] at hL;refine awN ?_;simp only [F3,seval,hI];refine awT ?_;refine awK ?_;simp only [F3,seval];refine awN ?_;simp only [F3,seval];refine awN ?_;simp only [F3,seval,hat,bD,A3];repeat refine ob ?_
  refine ⟨ab d9 t,_,hC,rfl,?_⟩;simp only [ak,F3,seval];refine awT ?_;refine awN ?_;simp only [F3,seval];refine awX ?_;simp only [F3,seval,←hL]
 obtain rfl:k=ts.length:=by omega
 have hI:¬(ts.length:Int)<(ts.length:Int):=by omega
 rw [List.drop_length] at hL;simp only [vj] at hL;refine awN ?_;simp only [F3,seval,hI];refine awF ?_;refine awQ ?_;simp only [F3,seval];refine awN ?_;simp only [F3,seval];refine awX ?_;simp only [F3,seval,←hL]
theorem pu (ts:List (List GPart)) (hn:ts.length<=1000000000000) (ht:∀t∈ts,t.length<=1000000000000):
  aR prog 119 [.one (.sh 1 ts.length (aA bD ts)),.one A3] (one (.bool (ts.any eb))):=by
 have hI:=vk ts hn ht;rw [←ED ts 0];refine aP func119 rfl (by decide) (N:=9) rfl (by simp) (R:=[.tmp 4]) rfl fun en k0=>?_
 refine awN ?_;simp only [zT,seval];refine awN ?_;simp only [zT,seval,A3];refine ⟨ab bF ts,_,hI,rfl,?_⟩;simp only [ak,zT,seval];refine awX ?_;simp only [zT,seval]
theorem lY {P:Program} {e:En} {k0:Kx} {N:Nat} {st:St} {Q:Exit->St->Prop} {x y:Code} (M:St->Prop) (h:Awp P e k0 N x (jf (fun st'=>∃st2,Wk e k0 N st' st2/\M st2) Q) st) (h2:∀st2,M st2->Awp P e k0 N y Q st2):Awp P e k0 N x (jf (Awp P e k0 N y Q) Q) st:=by
 refine lN h fun ex st' hq=>?_
 cases ex with
 |normal=>
  obtain ⟨st2,h1,h3⟩:=hq;exact cm h1 (h2 st2 h3)
 |_=>exact hq
def F4:=And.intro zS (And.intro tf0 (And.intro tf4 (tf5)))
theorem F5:type_of%F4:=F4
theorem Gt (m nx0 : Nat) (hm : m ≤ 1000000000000) : cT prog 159 [.one (.lit (.slice none 0 0)), .one (.lit (.int .i64 m))] (fun _ => none) nx0
      (fun res H' nx' => ∃ s, res = .val (.one (.own 33 s 0 5)) ∧ H' = up (fun _ => none) 33 (some ⟨s, 46, 5, 0, []⟩) ∧ nx' = s + 1) := by
  have n1 : ¬ (m : Int) < 0 := by omega
  have n2 : ((0 : Nat) : Int) - ((0 : Nat) : Int) = 0 := by omega
  have n3 : (m : Int) - 0 = m := by omega
  refine cF 8 func159 rfl (by decide) (N := 27) rfl (by simp) (Rl := [.tmp 4]) rfl fun en k0 => ?_
  refine awN ?_
  simp only [F5, seval]
  refine awN ?_
  simp only [F5, seval, n1]
  refine awF ?_
  refine awK ?_
  simp only [F5, seval]
  refine awN ?_
  simp only [F5, seval, n3]
  repeat refine ob ?_
  by_cases h0 : 0 < m
  · have hI : (0 : Int) < (m : Int) := by omega
    refine awN ?_
    simp only [F5, seval, hI]
    refine awT ?_
    refine awN ?_
    simp only [F5, seval]
    repeat refine ob ?_
    refine aQ [0] [33] ?_
    simp only [F5, seval]
    refine awN ?_
    simp only [F5, seval]
    refine awX ?_
    simp only [F5, seval]
    exact ⟨_, rfl, rfl, rfl⟩
  have hI : ¬ (0 : Int) < (m : Int) := by omega
  refine awN ?_
  simp only [F5, seval, hI]
  refine awF ?_
  refine awK ?_
  simp only [F5, seval]
  refine awN ?_
  simp only [F5, seval]
  repeat' first|apply awS|apply awB
  refine aQ [4] [] ?_
  refine gS 4 33 46 5 (by decide) (by rfl) ?_
  refine awX ?_
  simp only [F5, seval]
  exact ⟨_, rfl, rfl, rfl⟩
def F6:=And.intro zS (And.intro tf1 (And.intro tf2 (And.intro tf0 (And.intro tf3 (tf5)))))
theorem F7:type_of%F6:=F6
theorem vl (ts:List (List GPart)) (hn:ts.length<=1000000000000) (ht:ts.flatten.length<=1000000000000):
  aR prog 121 [.one (.sh 1 ts.length (aA bD ts))] (.val (.one (.sh 5 ts.flatten.length (aA bT ts.flatten)))):=by
 refine aP func121 rfl (by decide) (N:=36) rfl (by simp) (R:=[.tmp 2]) rfl fun en k0=>?_
 refine awN ?_;simp only [F7,seval];refine awN ?_;simp only [F7,seval];refine awN ?_;simp only [F7,seval];refine aQ [0,3,9,10,11] [] ?_;simp only [F7,seval];refine lY (M:=fun st=>∃nx,st=⟨mkT [(0,.val (.one (.sh 1 ts.length (aA bD ts)))),(3,one (.int .i64 (ts.flatten.length:Int)))],fun _=>none,nx,0⟩) ?_ ?_
 ·repeat' first|apply awS|apply awB
  refine aM (fun n st=>∃k nx D,k<=ts.length/\n=ts.length-k/\D++(ts.drop k).flatten=ts.flatten/\st=⟨mkT [(0,.val (.one (.sh 1 ts.length (aA bD ts)))),(3,one (.int .i64 (D.length:Int))),(9,.val (.one (.sh 1 ts.length (aA bD ts)))),(10,one (.int .i64 ts.length)),(11,one (.int .i64 k))],mkH [],nx,0⟩) ts.length ⟨0,_,[],by omega,by omega,rfl,rfl⟩ ?_;rintro n st ⟨k,nx,D,hk,rfl,hD,rfl⟩;by_cases hlt:k<ts.length
  ·have hI:(k:Int)<(ts.length:Int):=by omega
   have hat:=aO eA ts k hlt;rw [List.drop_eq_getElem_cons hlt,List.flatten_cons] at hD;rw [Nat.mul_one] at hat;generalize ts[k]=t at *
   have hB:=congrArg List.length hD;simp only [List.length_append] at hB;have hI2:¬(D.length:Int)+(t.length:Int)<0:=by omega
   refine awN ?_;simp only [F7,seval,hI];refine awT ?_;refine awK ?_;simp only [F7,seval];refine awN ?_;simp only [F7,seval,hat,bD];repeat refine ob ?_
   refine awN ?_;simp only [F7,seval];repeat refine ob ?_
   refine awN ?_;simp only [F7,seval,hI2];refine awF ?_;refine awK ?_;simp only [F7,seval];refine awN ?_;simp only [F7,seval];repeat refine ob ?_
   refine ⟨_,aI [0,3,9,10,11] [],ts.length-(k+1),by omega,k+1,nx,D++t,by omega,rfl,?_,?_⟩
   ·rw [List.append_assoc];exact hD
   simp only [F7,seval,List.length_append,Int.natCast_add];try rfl
  obtain rfl:k=ts.length:=by omega
  have hI:¬(ts.length:Int)<(ts.length:Int):=by omega
  rw [List.drop_length,List.flatten_nil,List.append_nil] at hD;refine awN ?_;simp only [F7,seval,hI];refine awF ?_;refine awQ ?_;simp only [F7,seval];refine ⟨_,aI [0,3] [],nx,?_⟩;subst hD;simp only [F7,seval]
 rintro st ⟨nx,rfl⟩;refine awR [24] [0,0,0] ?_;simp only [F7,seval];refine ⟨_,Gt ts.flatten.length nx ht,?_⟩;rintro res H nx ⟨s,rfl,rfl,rfl⟩;simp only [F7,seval];refine awN ?_;simp only [F7,seval];refine aQ [6,25,26,27] [33] ?_;simp only [F7,seval];repeat' first|apply awS|apply awB
 refine aM (fun n st=>∃k nx s D,k<=ts.length/\n=ts.length-k/\D++(ts.drop k).flatten=ts.flatten/\st=⟨mkT [(6,.val (.one (.own 33 s D.length 5))),(25,.val (.one (.sh 1 ts.length (aA bD ts)))),(26,one (.int .i64 ts.length)),(27,one (.int .i64 k))],mkH [(33,⟨s,46,5,D.length,aA bT D⟩)],nx,0⟩) ts.length ⟨0,_,s,[],by omega,by omega,rfl,rfl⟩ ?_;rintro n st ⟨k,nx,s,D,hk,rfl,hD,rfl⟩;by_cases hlt:k<ts.length
 ·have hI:(k:Int)<(ts.length:Int):=by omega
  have hat:=aO eA ts k hlt;rw [List.drop_eq_getElem_cons hlt,List.flatten_cons] at hD;rw [Nat.mul_one] at hat;generalize ts[k]=t at *
  have hB:=congrArg List.length hD;simp only [List.length_append] at hB;refine awN ?_;simp only [F7,seval,hI];refine awT ?_;refine awK ?_;simp only [F7,seval];refine awN ?_;simp only [F7,seval,hat,bD];repeat refine ob ?_
  refine awN ?_;simp only [F7,seval];repeat refine ob ?_
  refine awN ?_;simp only [F7,seval];repeat refine ob ?_
  refine ⟨_,aI [6,25,26,27] [33],ts.length-(k+1),by omega,k+1,nx+1,nx,D++t,by omega,rfl,?_,?_⟩
  ·rw [List.append_assoc];exact hD
  simp only [F7,seval,List.length_append,Int.natCast_add,fQ];try rfl
 obtain rfl:k=ts.length:=by omega
 have hI:¬(ts.length:Int)<(ts.length:Int):=by omega
 rw [List.drop_length,List.flatten_nil,List.append_nil] at hD;subst hD;refine awN ?_;simp only [F7,seval,hI];refine awF ?_;refine awQ ?_;simp only [F7,seval];refine awN ?_;simp only [F7,seval];refine awX ?_;simp only [F7,seval];exact ab d9 _
end Go.Proofs.YtokmkopihhnggaaGreatDoor
section
/- Contracts of the kit's shelf, laid at this translation by the kit's own tool: slices.Sort and slices.Compact at []int. -/
namespace Go.Proofs
open Go.Shelf Go.Proofs.Tryz
def Tryz.lays189_ren:Go.Shelf.Ren:=⟨fun|189=>122|125=>161|257=>160|128=>203|129=>204|294=>194|295=>195|296=>196|297=>197|298=>198|299=>199|216=>200|300=>201|301=>202|328=>225|329=>226|330=>227|331=>228|332=>229|215=>230|343=>236|n=>n,fun|28=>58|3=>3|46=>115|0=>0|51=>206|53=>165|4=>4|183=>256|182=>255|131=>261|5=>5|9=>9|218=>284|222=>288|228=>297|229=>298|n=>n,fun|n=>n⟩
theorem Tryz.lays189:Go.Proofs.Lays.n189 prog Tryz.lays189_ren:={
 mixed:=by kernel_rfl
 f125:=func161.trans (congrArg some (by kernel_rfl))
 f128:=func203.trans (congrArg some (by kernel_rfl))
 f129:=func204.trans (congrArg some (by kernel_rfl))
 f189:=func122.trans (congrArg some (by kernel_rfl))
 f215:=func230.trans (congrArg some (by kernel_rfl))
 f216:=func200.trans (congrArg some (by kernel_rfl))
 f257:=func160.trans (congrArg some (by kernel_rfl))
 f294:=func194.trans (congrArg some (by kernel_rfl))
 f295:=func195.trans (congrArg some (by kernel_rfl))
 f296:=func196.trans (congrArg some (by kernel_rfl))
 f297:=func197.trans (congrArg some (by kernel_rfl))
 f298:=func198.trans (congrArg some (by kernel_rfl))
 f299:=func199.trans (congrArg some (by kernel_rfl))
 f300:=func201.trans (congrArg some (by kernel_rfl))
 f301:=func202.trans (congrArg some (by kernel_rfl))
 f328:=func225.trans (congrArg some (by kernel_rfl))
 f329:=func226.trans (congrArg some (by kernel_rfl))
 f330:=func227.trans (congrArg some (by kernel_rfl))
 f331:=func228.trans (congrArg some (by kernel_rfl))
 f332:=func229.trans (congrArg some (by kernel_rfl))
 f343:=func236.trans (congrArg some (by kernel_rfl))
 t0:=underlying0
 a0:=Tryz.isAgg0
 z0:=Tryz.sizeOf0
 v0:=Tryz.zeroValue0
 t3:=underlying3
 a3:=Tryz.isAgg3
 z3:=Tryz.sizeOf3
 v3:=Tryz.zeroValue3
 t4:=underlying4
 a4:=Tryz.isAgg4
 z4:=Tryz.sizeOf4
 v4:=Tryz.zeroValue4
 t5:=underlying5
 a5:=Tryz.isAgg5
 z5:=Tryz.sizeOf5
 v5:=Tryz.zeroValue5
 t9:=underlying9
 a9:=Tryz.isAgg9
 z9:=Tryz.sizeOf9
 v9:=Tryz.zeroValue9
 t28:=underlying58
 a28:=Tryz.isAgg58
 z28:=Tryz.sizeOf58
 v28:=Tryz.zeroValue58
 t46:=underlying115
 a46:=Tryz.isAgg115
 z46:=Tryz.sizeOf115
 v46:=Tryz.zeroValue115
 t51:=underlying206
 a51:=Tryz.isAgg206
 z51:=Tryz.sizeOf206
 v51:=Tryz.zeroValue206
 t53:=underlying165
 a53:=Tryz.isAgg165
 z53:=Tryz.sizeOf165
 v53:=Tryz.zeroValue165
 t131:=underlying261
 a131:=Tryz.isAgg261
 z131:=Tryz.sizeOf261
 v131:=Tryz.zeroValue261
 t182:=underlying255
 a182:=Tryz.isAgg255
 z182:=Tryz.sizeOf255
 v182:=Tryz.zeroValue255
 t183:=underlying256
 a183:=Tryz.isAgg256
 z183:=Tryz.sizeOf256
 v183:=Tryz.zeroValue256
 t218:=underlying284
 a218:=Tryz.isAgg284
 z218:=Tryz.sizeOf284
 v218:=Tryz.zeroValue284
 t222:=underlying288
 a222:=Tryz.isAgg288
 z222:=Tryz.sizeOf288
 v222:=Tryz.zeroValue288
 t228:=underlying297
 a228:=Tryz.isAgg297
 z228:=Tryz.sizeOf297
 v228:=Tryz.zeroValue297
 t229:=underlying298
 a229:=Tryz.isAgg298
 z229:=Tryz.sizeOf298
 v229:=Tryz.zeroValue298}
open Go.Sort Go.RowKit in
theorem Tryz.slices_Sort_int (blk off cap:Nat) (zs:List Int) (w:World) (hH:Holds (Value.int .i64) w blk off zs.toArray) (hblk:blk<w.heap.size) (hsz:zs.length<4611686018427387904):
  Calls prog 122 #[.slice (some ⟨blk,off,none⟩) zs.length cap] w fun e w'=>
   e= .returned (.tuple #[])/\∃n os,w'=grow (putRow (Value.int .i64) (Sort.ahead w n) blk off (zs.mergeSort fun x y=>decide (x<=y)).toArray) os:=Any.slices_Sort_int Tryz.lays189 blk off cap zs w hH hblk hsz
def Tryz.laysNm220_ren:Go.Shelf.Ren:=⟨fun|20=>123|n=>n,fun|22=>58|3=>3|4=>4|0=>0|n=>n,fun|n=>n⟩
theorem Tryz.laysNm220:Go.Proofs.Lays2.n20 prog Tryz.laysNm220_ren:={
 mixed:=by kernel_rfl
 f20:=func123.trans (congrArg some (by kernel_rfl))
 t0:=underlying0
 a0:=Tryz.isAgg0
 z0:=Tryz.sizeOf0
 v0:=Tryz.zeroValue0
 t3:=underlying3
 a3:=Tryz.isAgg3
 z3:=Tryz.sizeOf3
 v3:=Tryz.zeroValue3
 t4:=underlying4
 a4:=Tryz.isAgg4
 z4:=Tryz.sizeOf4
 v4:=Tryz.zeroValue4
 t22:=underlying58
 a22:=Tryz.isAgg58
 z22:=Tryz.sizeOf58
 v22:=Tryz.zeroValue58
 i3:=by kernel_rfl}
open Go.RowKit Go.Lib Go.Sort in
theorem Tryz.slices_Compact_int (blk off cap:Nat) (zs:List Int) (w:World) (hH:Holds (Value.int .i64) w blk off zs.toArray) (hsz:zs.length<=9223372036854775807) (hcap:zs.length<=cap):
  Calls prog 123 #[.slice (some ⟨blk,off,none⟩) zs.length cap] w fun e w'=>e= .returned (.slice (some ⟨blk,off,none⟩) (Lib.compact zs).length cap)/\∃q,w'=putRow (Value.int .i64) (Sort.ahead w q) blk off (Lib.compact zs++List.replicate (zs.length-(Lib.compact zs).length) 0).toArray:=Any.slices_Compact_int Tryz.laysNm220 blk off cap zs w hH hsz hcap
open Go.RowKit Go.Lib Go.Sort in
theorem Tryz.slices_Compact_int_empty (a:Option Addr) (cap:Nat) (w:World):
  Calls prog 123 #[.slice a 0 cap] w fun e w'=>e= .returned (.slice a 0 cap)/\w'=w:=Any.slices_Compact_int_empty Tryz.laysNm220 a cap w
open Go.RowKit Go.Sort in
theorem Tryz.slices_Sort_int_none (p:Option Addr) (cap:Nat) (w:World):
  Calls prog 122 #[.slice p 0 cap] w fun e w'=>e= .returned (.tuple #[])/\w'=w:=Any.slices_Sort_int_none Tryz.lays189 p cap w
end Go.Proofs
end
namespace Go.Proofs.YtokmkopihhnggaaGreatDoor
open Go Go.RowKit Go.Proofs.Tryz
def cN (zs:List Int):List Int:=zs.mergeSort fun x y=>decide (x<=y)
theorem eH (zs:List Int):(cN zs).length=zs.length:=by simp [cN]
theorem pv {κ:Kx}:∀{xs:List Value} {zs:List Int},denVs κ xs (aA cI zs)->xs=zs.map (Value.int .i64)
 |[],[],_=>rfl
 |x::xs,z::zs,h=>by
  rw [cf] at h;simp only [cI,List.cons_append,List.nil_append,denVs,den] at h;rw [h.1.1,pv h.2,List.map_cons]
 |[],z::zs,h=>by rw [cf] at h;exact h.elim
 |x::xs,[],h=>h.elim
theorem pw {κ:Kx}:∀{zs:List Int},denVs κ (zs.map (Value.int .i64)) (aA cI zs)
 |[]=>trivial
 |z::zs=>by
  rw [cf];simp only [cI,List.cons_append,List.nil_append,denVs,den,List.map_cons];exact ⟨⟨trivial,rfl⟩,pw⟩
theorem Gu (H : Hp) (nx nm s : Nat) (E : TypeId) (zs : List Int) (hH : H nm = some ⟨s, E, 1, zs.length, aA cI zs⟩) (hn : zs.length < 4611686018427387904) :
    cT prog 122 [.one (.own nm s zs.length 1)] H nx (fun res H' nx' => res = .tup [] ∧ H' = up H nm (some ⟨s, E, 1, zs.length, aA cI (cN zs)⟩) ∧ nx' = nx) := by
  refine ⟨⟨_, func122, by decide, by rfl⟩, fun e σ w vs hW hvs => ?_⟩
  match vs, hvs with
  | [v], ⟨hv, _⟩ =>
    simp only [bl, den] at hv
    obtain ⟨f1, f2, f3⟩ := hv.2.2 _ hH rfl
    have hv' : v = σ nm := f1
    subst hv'
    obtain ⟨_, g2, xs, g3, g4⟩ := hW.rowOf hH (.inl (by simp))
    have hxs := pv g4
    subst hxs
    have fin : ∀ w', w.grownBy w' (σ nm).ownBlock → w'.ownsRow e.w0.heap.size E 1 (σ nm) zs.length ((cN zs).map (Value.int .i64)) →
        ∃ v res H' nx' σ', Ending.returned (.tuple #[]) = .returned v ∧ RW e H' nx' σ' w' ∧ Ext (kx e H nx σ w) (kx e H' nx' σ' w') ∧ aY (kx e H' nx' σ' w') v res ∧ (res = .tup [] ∧ H' = up H nm (some ⟨s, E, 1, zs.length, aA cI (cN zs)⟩) ∧ nx' = nx) := fun w' h1 h2 => by
      obtain ⟨k1, k2⟩ := hW.upd hH h1 (cs := aA cI (cN zs)) (by simp) (by simp [bo mO, eH]) h2 pw
      exact ⟨_, .tup [], _, nx, σ, rfl, k1, k2, ⟨[], rfl, trivial⟩, rfl, rfl, rfl⟩
    rcases g3.2 with ⟨q2, q1⟩ | ⟨g, cap, cur, q1, q2, q3, q4, q5, q6, q7⟩
    · have hz : zs = [] := List.eq_nil_of_length_eq_zero q1
      subst hz
      show Calls _ _ #[σ nm] w _
      rw [q2]
      refine (Tryz.slices_Sort_int_none none 0 w).mono ?_
      rintro ex w' ⟨rfl, rfl⟩
      refine fin _ (by rw [q2]; exact ⟨rfl, rfl, rfl, Nat.le_refl _, fun _ _ _ => rfl⟩) ?_
      have hs0 : cN [] = [] := by simp [cN]
      rw [q2, hs0]; exact World.ownsRow_nil _ _ _ _
    have q7' : cur.toList.take zs.length = zs.map (Value.int .i64) := by simpa using q7
    show Calls _ _ #[σ nm] w _
    rw [q1]
    refine (Tryz.slices_Sort_int g 0 cap zs w (holds_of_blockI q3 q7') ?_ hn).mono ?_
    · exact (Array.getElem?_eq_some_iff.1 q3).1
    rintro ex w' ⟨rfl, n, os, rfl⟩
    refine fin _ (by rw [q1]; exact grownBy_sortedI _) ?_
    rw [q1]
    exact ownsRow_sortedI (eH zs) q2 q3 q4 q5 q6
theorem A4 (d : Nat) (H : Hp) (nx nm s : Nat) (E : TypeId) (zs : List Int) (hH : H nm = some ⟨s, E, 1, zs.length, aA cI zs⟩) (hn : zs.length < 4611686018427387904) :
    cT prog 123 [.one (.own nm s zs.length 1)] H nx (fun res H' nx' => res = .val (.one (.own d nx (Lib.compact zs).length 1)) ∧ H' = up (up H nm none) d (some ⟨nx, E, 1, (Lib.compact zs).length, aA cI (Lib.compact zs)⟩) ∧ nx' = nx + 1) := by
  refine ⟨⟨_, func123, by decide, by rfl⟩, fun e σ w vs hW hvs => ?_⟩
  match vs, hvs with
  | [v], ⟨hv, _⟩ =>
    simp only [bl, den] at hv
    obtain ⟨f1, f2, f3⟩ := hv.2.2 _ hH rfl
    have hv' : v = σ nm := f1
    subst hv'
    obtain ⟨_, g2, xs, g3, g4⟩ := hW.rowOf hH (.inl (by simp))
    have hxs := pv g4
    subst hxs
    have hle := Lib.compact_length_le zs
    have fin : ∀ w' v' row, w.grownBy w' row → (∀ r, row = some r → obk (σ nm) = some r) → (∀ r, obk v' = some r → obk (σ nm) = some r) → w'.ownsRow e.w0.heap.size E 1 v' (Lib.compact zs).length ((Lib.compact zs).map (Value.int .i64)) →
        ∃ v res H' nx' σ', Ending.returned v' = .returned v ∧ RW e H' nx' σ' w' ∧ Ext (kx e H nx σ w) (kx e H' nx' σ' w') ∧ aY (kx e H' nx' σ' w') v res ∧ (res = .val (.one (.own d nx (Lib.compact zs).length 1)) ∧ H' = up (up H nm none) d (some ⟨nx, E, 1, (Lib.compact zs).length, aA cI (Lib.compact zs)⟩) ∧ nx' = nx + 1) := fun w' v' row h1 h2 h3 h4 => by
      obtain ⟨k1, k2⟩ := hW.new (nm0 := nm) (d := d) (row := row) h1 (B' := ⟨nx, E, 1, (Lib.compact zs).length, aA cI (Lib.compact zs)⟩) (v' := v') rfl (by simp) (by simp [bo mO]) (fun r hr => ⟨h2 r hr, _, hH⟩) (fun r hr => .inr ⟨h3 r hr, _, hH⟩) h4 pw
      have ho : v'.oneCell' = true := by rcases h4.2 with ⟨h, _⟩ | ⟨g, cap, cur, h, _⟩ <;> rw [h] <;> rfl
      exact ⟨_, .val (.one (.own d nx _ 1)), _, _, _, rfl, k1, k2, cc d σ _ ho, rfl, rfl, rfl⟩
    rcases g3.2 with ⟨q2, q1⟩ | ⟨g, cap, cur, q1, q2, q3, q4, q5, q6, q7⟩
    · have hz : zs = [] := List.eq_nil_of_length_eq_zero q1
      subst hz
      show Calls _ _ #[σ nm] w _
      rw [q2]
      refine (Tryz.slices_Compact_int_empty none 0 w).mono ?_
      rintro ex w' ⟨rfl, rfl⟩
      exact fin _ _ none ⟨rfl, rfl, rfl, Nat.le_refl _, fun _ _ _ => rfl⟩ (by simp) (by simp [obk]) (World.ownsRow_nil _ _ _ _)
    have q7' : cur.toList.take zs.length = zs.map (Value.int .i64) := by simpa using q7
    show Calls _ _ #[σ nm] w _
    rw [q1]
    have q4' : zs.length ≤ cap := q4
    refine (Tryz.slices_Compact_int g 0 cap zs w (holds_of_blockI q3 q7') (by omega) q4').mono ?_
    rintro ex w' ⟨rfl, q, rfl⟩
    have hgr := grownBy_sortedI (w := w) (g := g) (n := q) (os := #[]) (Lib.compact zs ++ List.replicate (zs.length - (Lib.compact zs).length) 0).toArray
    have hp := heap_sortedI (w := w) (n := q) (os := #[]) (Lib.compact zs ++ List.replicate (zs.length - (Lib.compact zs).length) 0).toArray q3
    rw [Sort.grow_empty] at hgr hp
    refine fin _ _ (some g) hgr (fun r hr => ?_) (fun r hr => ?_) ⟨by simp, .inr ⟨g, cap, _, rfl, q2, hp, by omega, q5, ?_, ?_⟩⟩
    · obtain rfl := Option.some.inj hr; rw [q1]; rfl
    · rw [q1]; exact hr
    · simp [Sort.putCells]; simpa using q6
    have hcs : zs.length ≤ cur.size := by
      have : cur.size = cap * 1 := q6
      omega
    have hl : (Lib.compact zs ++ List.replicate (zs.length - (Lib.compact zs).length) 0).length = zs.length := by simp; omega
    have := take_putCellsI cur (Lib.compact zs ++ List.replicate (zs.length - (Lib.compact zs).length) 0) (by rw [hl]; exact hcs)
    rw [hl] at this
    rw [Nat.mul_one]
    have h2 : List.take (Lib.compact zs).length (List.take zs.length (Sort.putCells (Value.int .i64) 0 (Lib.compact zs ++ List.replicate (zs.length - (Lib.compact zs).length) 0).toArray cur).toList) = (Lib.compact zs).map (Value.int .i64) := by
      rw [this, List.map_append, List.take_left' (by simp)]
    rwa [List.take_take, Nat.min_eq_left hle] at h2
def dF:List GPart->List Int
 |[]=>[]
 |p::l=>if p.claim= -1 then dF l else p.claim::dF l
def mem (a:bR):List Int:=Lib.compact (cN (dF a.flatten))
theorem xH (d:Nat) (H:Hp) (nx nm s n:Nat) (E:TypeId) (zs:List Int) (hnz:n=zs.length) (hH:H nm=some ⟨s,E,1,n,aA cI zs⟩) (hn:zs.length<4611686018427387904):
  cT prog 123 [.one (.own nm s n 1)] H nx (fun res H' nx'=>res= .val (.one (.own d nx (Lib.compact zs).length 1))/\H'=up (up H nm none) d (some ⟨nx,E,1,(Lib.compact zs).length,aA cI (Lib.compact zs)⟩)/\nx'=nx+1):=by
 subst hnz;exact A4 d H nx nm s E zs hH hn
def F8:=And.intro zS (And.intro tf6 (And.intro tf0 (And.intro tf7 (And.intro tf8 (And.intro tf9 (And.intro KB (And.intro AU (And.intro jz (And.intro tf5 (IX))))))))))
theorem F9:type_of%F8:=F8
theorem rN (a:bR) (h1:a.length<=1000000000000) (h2:a.flatten.length<=1000000000000):
  aR prog 76 [.agg (bu a)] (.val (.one (.sh 1 (mem a).length (aA cI (mem a))))):=by
 have hC:=vl a h1 h2;unfold mem;refine aP func76 rfl (by decide) (N:=27) rfl (by simp) (R:=[.tmp 2]) rfl fun en k0=>?_
 refine awN ?_;simp only [F9,seval,bu];refine awN ?_;simp only [F9,seval];refine awN ?_;simp only [F9,seval];refine ⟨ab bF a,_,hC,by simp [al,ax,ab d9],?_⟩;simp only [ak,F9,seval];refine aQ [3,8,9,10] [] ?_;simp only [F9,seval];refine gS 3 21 3 1 (by decide) (by rfl) ?_;refine aQ [3,8,9,10] [21] ?_;simp only [F9,seval];repeat' first|apply awS|apply awB
 refine aM (fun n st=>∃k nx s D,k<=a.flatten.length/\n=a.flatten.length-k/\D.length<=k/\D++dF (a.flatten.drop k)=dF a.flatten/\st=⟨mkT [(3,.val (.one (.own 21 s D.length 1))),(8,.val (.one (.sh 5 a.flatten.length (aA bT a.flatten)))),(9,one (.int .i64 a.flatten.length)),(10,one (.int .i64 k))],mkH [(21,⟨s,3,1,D.length,aA cI D⟩)],nx,0⟩) a.flatten.length ⟨0,_,_,[],by omega,by omega,by simp,rfl,rfl⟩ ?_;rintro n st ⟨k,nx,s,D,hk,rfl,hDl,hD,rfl⟩;generalize a.flatten=l at *
 by_cases hlt:k<l.length
 ·have hI:(k:Int)<(l.length:Int):=by omega
  have hat:=aO eX l k hlt;rw [List.drop_eq_getElem_cons hlt] at hD;generalize l[k]=p at *
  simp only [dF] at hD;by_cases hc:p.claim= -1
  ·repeat' first|apply awS|apply awB
   refine awN ?_;simp only [F9,seval,hI];refine awT ?_;refine awK ?_;simp only [F9,seval];refine awN ?_;simp only [F9,seval,hat,bT];repeat refine ob ?_
   refine awN ?_;simp only [F9,seval,hc];refine awF ?_;refine awK ?_;simp only [F9,seval];refine awN ?_;simp only [F9,seval];repeat refine ob ?_
   refine ⟨_,aI [3,8,9,10] [21],l.length-(k+1),by omega,k+1,nx+1,s,D,by omega,rfl,by omega,?_,?_⟩
   ·rw [if_pos hc] at hD;exact hD
   simp only [F9,seval];try rfl
  repeat' first|apply awS|apply awB
  refine awN ?_;simp only [F9,seval,hI];refine awT ?_;refine awK ?_;simp only [F9,seval];refine awN ?_;simp only [F9,seval,hat,bT];repeat refine ob ?_
  refine awN ?_;simp only [F9,seval,hc];refine awT ?_;refine awN ?_;simp only [F9,seval];repeat refine ob ?_
  refine awN ?_;simp only [F9,seval];repeat refine ob ?_
  refine ⟨_,aI [3,8,9,10] [21],l.length-(k+1),by omega,k+1,nx+3,nx+2,D++[p.claim],by omega,rfl,by simp;omega,?_,?_⟩
  ·rw [if_neg hc] at hD;simpa using hD
  simp only [F9,seval,List.length_append,fQ,cf,ve,cI];try rfl
 obtain rfl:k=l.length:=by omega
 have hI:¬(l.length:Int)<(l.length:Int):=by omega
 rw [List.drop_length] at hD;simp only [dF,List.append_nil] at hD;subst hD;refine awN ?_;simp only [F9,seval,hI];refine awF ?_;refine awQ ?_;simp only [F9,seval];refine awR [24] [0,0] ?_;simp only [F9,seval];refine ⟨_,Gu _ _ 21 s _ (dF l) (by rfl) (by omega),?_⟩;rintro res H nx ⟨rfl,rfl,rfl⟩;simp only [F9,seval];refine awR [26] [0,0,0] ?_;simp only [F9,seval];refine ⟨_,xH 26 _ _ 21 s _ _ (cN (dF l)) (eH _).symm (by rfl) (by rw [eH];omega),?_⟩;rintro res H nx ⟨rfl,rfl,rfl⟩;simp only [F9,seval];refine awX ?_;simp only [F9,seval];exact ab bg _
instance:Inhabited GClaim:=⟨⟨0,0,⟨false,ay,ay⟩⟩⟩
def kk (es:List GEst) (l:Leg):GClaim:=(es.getD l.1.toNat gr).claims.getD l.2.toNat default
def kC (es:List GEst) (l:Leg):Bool:=decide (0<=l.1)&&decide (l.1<es.length)&&decide (0<=l.2)&&decide (l.2<(es.getD l.1.toNat gr).claims.length)
theorem CR {α:Type} {f:α->List C} {sz:Nat} (hf:∀a,(f a).length=sz) (l:List α) (i:Int) (d:α) (h0:0<=i) (h:i<l.length):(aA f l).drop (i.toNat*sz)=f (l.getD i.toNat d)++aA f (l.drop (i.toNat+1)):=by
 have hk:i.toNat<l.length:=by omega
 rw [aO hf l i.toNat hk];congr 2;simp [List.getD,hk]
def F10:=And.intro zS (And.intro Gc (And.intro Gd (And.intro Ep (And.intro CF (And.intro cD (And.intro tu (And.intro BK (And.intro vg (And.intro Eq (And.intro tv (And.intro mN (jz))))))))))))
theorem F11:type_of%F10:=F10
theorem KF (g:GGrp) (l:Leg) (h:kC g.ests l=true):
  aR prog 105 [.agg (am g),.agg (gp l)] (one (.int .i64 (kk g.ests l).holder)):=by
 simp only [kC,Bool.and_eq_true,decide_eq_true_eq] at h;obtain ⟨⟨⟨h1,h2⟩,h3⟩,h4⟩:=h;have a1:=CR i4 g.ests l.1 gr h1 h2;have a2:=CR cK (g.ests.getD l.1.toNat gr).claims l.2 default h3 h4;unfold kk;generalize g.ests.getD l.1.toNat gr=e at *
 generalize e.claims.getD l.2.toNat default=c at *
 refine aP func105 rfl (by decide) (N:=17) rfl (by simp) (R:=[.tmp 4]) rfl fun en k0=>?_
 refine awN ?_;simp only [F11,seval,am,gp];refine awD (scT 0 13 .nil) [0,0,0,0,0,0,0,0,0,0,0,0,0] ?_;simp only [F11,seval,a1,a2,aJ,b0];refine ⟨⟨h1,h2⟩,⟨h3,h4⟩,?_⟩;refine awX ?_;simp only [F11,seval]
noncomputable def mn (es:List GEst) (h0:Int):List Leg->List Leg->Int×List Leg
 |[],T=>(0,T)
 |l::ls,T=>if kC es l=false then (1,T) else if l∈T then (20,T) else if (kk es l).holder≠h0 then (19,T) else mn es h0 ls (T++[l])
noncomputable def mt (g:GGrp) (d:GDebt) (T:List Leg):Int×List Leg:=
 if 8<d.legs.length then (2,T) else if cU (qOf d.whole)<0 then (7,T) else mn g.ests (kk g.ests (d.legs.getD 0 (0,0))).holder d.legs T
def xP (s:Nat) (T:List Leg):Blk:=⟨s,103,0,0,CO T⟩
def F12:=And.intro zS (And.intro Gd (And.intro Hr (And.intro Ep (And.intro CF (And.intro Er (And.intro vh (And.intro Ge (And.intro tu (And.intro BK (And.intro vg (And.intro Eq (And.intro tv (And.intro mN (And.intro pq (And.intro tw (And.intro tz (And.intro pr (And.intro jz (And.intro vi (CG))))))))))))))))))))
theorem F13:type_of%F12:=F12
theorem NS {H:Hp} {f:Hp} (hb:∀x B,H x=some B->x<1000) (hf:∀x,x<1000->x≠66->f x=H x) (l:List Nat):∀x B,H x=some B->fA (66::l) x=true∨f x=some B:=fun x B hB=>by
 by_cases hx:x=66
 ·left;subst hx;rfl
 right;rw [hf x (hb x B hB) hx];exact hB
theorem KG (g:GGrp) (d:GDebt) (T:List Leg) (H:Hp) (nx0 s:Nat) (hb:∀x B,H x=some B->x<1000) (hH:H 66=some (xP s T)) (h1:d.whole.num.size<=500000000000) (h2:d.whole.den.size<=500000000000):
  cT prog 53 [.agg (am g),.agg (fu d),.one (.own 66 s 0 0)] H nx0
   (fun res H' _=>res=one (.int .i64 (mt g d T).1)/\H' 66=some (xP s (mt g d T).2)/\∀x,x<1000->x≠66->H' x=H x):=by
 have hS:=yZ d.whole h1 h2;unfold mt;refine cF 1000 func53 rfl (by decide) (N:=74) rfl (by simp) (Rl:=[.tmp 6]) rfl fun en k0=>?_
 by_cases hlen:8<d.legs.length
 ·have hI:(8:Int)<(d.legs.length:Int):=by omega
  refine awN ?_;simp only [F13,seval,am,fu];refine awN ?_;simp only [F13,seval,hI];refine awT ?_;refine awN ?_;simp only [F13,seval];refine awX ?_;simp only [F13,seval,hlen,hH];exact (fun x h1 h2=>by (try simp only [aB]);repeat rw [if_neg (by omega)])
 have hI:¬(8:Int)<(d.legs.length:Int):=by omega
 by_cases hq:cU (qOf d.whole)<0
 ·repeat' first|apply awS|apply awB
  refine awN ?_;simp only [F13,seval,am,fu];refine awN ?_;simp only [F13,seval,hI];refine awF ?_;refine awN ?_;simp only [F13,seval];refine ⟨_,hS,rfl,?_⟩;simp only [ak,F13,seval,hq];refine awT ?_;refine awN ?_;simp only [F13,seval];refine awX ?_;simp only [F13,seval,hlen,hH];exact (fun x h1 h2=>by (try simp only [aB]);repeat rw [if_neg (by omega)])
 repeat' first|apply awS|apply awB
 refine awN ?_;simp only [F13,seval,am,fu];refine awN ?_;simp only [F13,seval,hI];refine awF ?_;refine awN ?_;simp only [F13,seval];refine ⟨_,hS,rfl,?_⟩;simp only [ak,F13,seval,hq];refine awF ?_;refine awK ?_;simp only [F13,seval];refine awN ?_;simp only [F13,seval];simp only [hlen,if_false];refine eC H [2,3,4,20,21,22] [66,1003,1004] (NS hb (fun x h1 h2=>by (try simp only [aB]);repeat rw [if_neg (by omega)]) _) ?_;simp only [F13,seval,hH];generalize hh0:(kk g.ests (d.legs.getD 0 (0,0))).holder=hd0;repeat' first|apply awS|apply awB
 refine aM (fun n st=>∃k nx T1,k<=d.legs.length/\n=d.legs.length-k/\mn g.ests hd0 (d.legs.drop k) T1=mn g.ests hd0 d.legs T/\(0<k->kC g.ests (d.legs.getD 0 (0,0))=true)/\st=⟨mkT [(2,.val (.one (.own 66 s 0 0))),(3,.val (.one (.ptr 1003 nx0 0))),(4,.val (.one (.ptr 1004 (nx0+1) 0))),(20,.val (.one (.sh 2 d.legs.length (aA gp d.legs)))),(21,one (.int .i64 d.legs.length)),(22,one (.int .i64 k))],bZ H [(66,xP s T1),(1003,⟨nx0,28,2,1,am g⟩),(1004,⟨nx0+1,42,4,1,fu d⟩)],nx,1000⟩) d.legs.length ⟨0,_,T,by omega,by omega,rfl,by omega,rfl⟩ ?_;rintro n st ⟨k,nx,T1,hk,rfl,hL,h0,rfl⟩;by_cases hlt:k<d.legs.length
 ·have hI:(k:Int)<(d.legs.length:Int):=by omega
  have hI0:(0:Int)<(d.legs.length:Int):=by omega
  have hat:=aO gt d.legs k hlt;have hdr:d.legs.drop k=d.legs[k]::d.legs.drop (k+1):=List.drop_eq_getElem_cons hlt;have ht0:List.take 2 (aA gp d.legs)=gp (d.legs.getD 0 (0,0)):=by
   have h5:0<d.legs.length:=by omega
   have:=aO gt d.legs 0 h5;simp only [Nat.zero_mul,List.drop_zero] at this;rw [this,List.take_left' (gt _)];simp [List.getD,h5]
  have hlen0:2<=(aA gp d.legs).length:=by rw [bo gt];omega
  have hk0:k=0->d.legs[k]=d.legs.getD 0 (0,0):=fun h=>by subst h;simp [List.getD,hlt]
  rw [hdr] at hL;generalize d.legs[k]=l at *
  simp only [mn] at hL;have RES:∀(c:Int),(if kC g.ests l=false then ((1:Int),T1) else if l∈T1 then (20,T1) else if (kk g.ests l).holder≠hd0 then (19,T1) else mn g.ests hd0 (List.drop (k+1) d.legs) (T1++[l]))=(c,T1)->mn g.ests hd0 d.legs T=(c,T1):=fun c h=>hL.symm.trans h
  by_cases hin:kC g.ests l=true
  ·have hin':=hin;simp only [kC,Bool.and_eq_true,decide_eq_true_eq] at hin';obtain ⟨⟨⟨e1,e2⟩,e3⟩,e4⟩:=hin';have a1:=CR i4 g.ests l.1 gr e1 e2;have hH1:=KF g l hin;have hin0:kC g.ests (d.legs.getD 0 (0,0))=true:=by
    rcases Nat.eq_zero_or_pos k with h|h
    ·rw [←hk0 h];exact hin
    exact h0 h
   have hH2:=KF g (d.legs.getD 0 (0,0)) hin0;rw [hh0] at hH2;generalize d.legs.getD 0 (0,0)=l0 at *
   have n1:¬l.1<0:=by omega
   have n2:¬(g.ests.length:Int)<=l.1:=by omega
   have n3:¬l.2<0:=by omega
   have n4:¬((g.ests.getD l.1.toNat gr).claims.length:Int)<=l.2:=by omega
   refine awN ?_;simp only [F13,seval,hI];refine awT ?_;refine awK ?_;simp only [F13,seval];refine awN ?_;simp only [F13,seval,hat,gp];repeat refine ob ?_
   refine awD (scT 0 30 .nil) [0,0,0,0,62,62,62,62,62,62,0,0,78,78,78,0,0,88,88,88,88,88,88,88,88,88,88,88,0,0] ?_;simp only [F13,seval,n1,n2,n3,n4,a1,aJ,am];repeat refine ob ?_
   refine awF ?_;by_cases hm:l∈T1
   ·repeat' first|apply awS|apply awB
    refine awN ?_;simp only [F13,seval,Lm l T1 hm,xP,Option.getD_some];refine ⟨Jr l T1,?_⟩;refine awT ?_;refine awN ?_;simp only [F13,seval];have hR:=RES 20 (by simp [hin,hm]);refine awX ?_;simp only [F13,seval,hR];exact (fun x h1 h2=>by (try simp only [aB]);repeat rw [if_neg (by omega)])
   repeat' first|apply awS|apply awB
   refine awN ?_;simp only [F13,seval,KD l T1 hm,xP,Option.getD_none];refine ⟨Jr l T1,?_⟩;refine awF ?_;by_cases hne:(kk g.ests l).holder=hd0
   ·repeat' first|apply awS|apply awB
    refine awD (scq [1,3] (scT 3 5 (scq [4,16,19,21] .nil))) [0,0,0,0,0,0,0,0,0,0,0] ?_;simp only [F13,seval,fu,ht0,gp,ab b5,ab aN];repeat refine ob ?_
    refine ⟨_,hH1,rfl,?_⟩;simp only [ak,F13,seval,ab b5,ab aN];refine ⟨_,hH2,rfl,?_⟩;simp only [F13,seval,hne];refine awF ?_;refine awK ?_;simp only [F13,seval];refine awN ?_;simp only [F13,seval,KE l T1 hm];refine ⟨Jr l T1,?_⟩;refine awN ?_;simp only [F13,seval];repeat refine ob ?_
    refine ⟨_,fP H [2,3,4,20,21,22] [66,1003,1004] (NS hb (fun x h1 h2=>by (try simp only [aB]);repeat rw [if_neg (by omega)]) _),d.legs.length-(k+1),by omega,k+1,nx+1,T1++[l],by omega,rfl,?_,fun _=>hin0,?_⟩
    ·rw [←hL];simp [hin,hm,hne]
    simp only [F13,seval];try rfl
   repeat' first|apply awS|apply awB
   refine awD (scq [1,3] (scT 3 5 (scq [4,16,19,21] .nil))) [0,0,0,0,0,0,0,0,0,0,0] ?_;simp only [F13,seval,fu,ht0,gp,ab b5,ab aN];repeat refine ob ?_
   refine ⟨_,hH1,rfl,?_⟩;simp only [ak,F13,seval,ab b5,ab aN];refine ⟨_,hH2,rfl,?_⟩;simp only [F13,seval,hne];refine awT ?_;refine awN ?_;simp only [F13,seval];have hR:=RES 19 (by simp [hin,hm,hne]);refine awX ?_;simp only [F13,seval,hR];exact (fun x h1 h2=>by (try simp only [aB]);repeat rw [if_neg (by omega)])
  have hin':kC g.ests l=false:=by simpa using hin
  have hR:=RES 1 (by simp [hin']);by_cases p1:l.1<0
  ·refine awN ?_;simp only [F13,seval,hI];refine awT ?_;refine awK ?_;simp only [F13,seval];refine awN ?_;simp only [F13,seval,hat,gp];repeat refine ob ?_
   refine awD (scT 0 30 .nil) [0,0,0,0,62,62,62,62,62,62,0,0,78,78,78,0,0,88,88,88,88,88,88,88,88,88,88,88,0,0] ?_;simp only [F13,seval,p1,am];refine awT ?_;refine awN ?_;simp only [F13,seval];refine awX ?_;simp only [F13,seval,hR,xP];exact (fun x h1 h2=>by (try simp only [aB]);repeat rw [if_neg (by omega)])
  by_cases p2:(g.ests.length:Int)<=l.1
  ·refine awN ?_;simp only [F13,seval,hI];refine awT ?_;refine awK ?_;simp only [F13,seval];refine awN ?_;simp only [F13,seval,hat,gp];repeat refine ob ?_
   refine awD (scT 0 30 .nil) [0,0,0,0,62,62,62,62,62,62,0,0,78,78,78,0,0,88,88,88,88,88,88,88,88,88,88,88,0,0] ?_;simp only [F13,seval,p1,p2,am];refine awT ?_;refine awN ?_;simp only [F13,seval];refine awX ?_;simp only [F13,seval,hR,xP];exact (fun x h1 h2=>by (try simp only [aB]);repeat rw [if_neg (by omega)])
  by_cases p3:l.2<0
  ·refine awN ?_;simp only [F13,seval,hI];refine awT ?_;refine awK ?_;simp only [F13,seval];refine awN ?_;simp only [F13,seval,hat,gp];repeat refine ob ?_
   refine awD (scT 0 30 .nil) [0,0,0,0,62,62,62,62,62,62,0,0,78,78,78,0,0,88,88,88,88,88,88,88,88,88,88,88,0,0] ?_;simp only [F13,seval,p1,p2,p3,am];refine awT ?_;refine awN ?_;simp only [F13,seval];refine awX ?_;simp only [F13,seval,hR,xP];exact (fun x h1 h2=>by (try simp only [aB]);repeat rw [if_neg (by omega)])
  have a1:=CR i4 g.ests l.1 gr (by omega) (by omega);have p4:((g.ests.getD l.1.toNat gr).claims.length:Int)<=l.2:=by
   simp only [kC] at hin';by_cases q:((g.ests.getD l.1.toNat gr).claims.length:Int)<=l.2
   ·exact q
   have e1:0<=l.1:=by omega
   have e2:l.1<(g.ests.length:Int):=by omega
   have e3:0<=l.2:=by omega
   have e4:l.2<((g.ests.getD l.1.toNat gr).claims.length:Int):=by omega
   rw [decide_eq_true e1,decide_eq_true e2,decide_eq_true e3,decide_eq_true e4] at hin';cases hin'
  refine awN ?_;simp only [F13,seval,hI];refine awT ?_;refine awK ?_;simp only [F13,seval];refine awN ?_;simp only [F13,seval,hat,gp];repeat refine ob ?_
  refine awD (scT 0 30 .nil) [0,0,0,0,62,62,62,62,62,62,0,0,78,78,78,0,0,88,88,88,88,88,88,88,88,88,88,88,0,0] ?_;simp only [F13,seval,p1,p2,p3,p4,a1,aJ,am];repeat refine ob ?_
  refine awT ?_;refine awN ?_;simp only [F13,seval];refine awX ?_;simp only [F13,seval,hR,xP];exact (fun x h1 h2=>by (try simp only [aB]);repeat rw [if_neg (by omega)])
 obtain rfl:k=d.legs.length:=by omega
 have hI:¬(d.legs.length:Int)<(d.legs.length:Int):=by omega
 rw [List.drop_length] at hL;simp only [mn] at hL;refine awN ?_;simp only [F13,seval,hI];refine awF ?_;refine awQ ?_;simp only [F13,seval];refine awN ?_;simp only [F13,seval];refine awX ?_;simp only [F13,seval,←hL,xP];exact (fun x h1 h2=>by (try simp only [aB]);repeat rw [if_neg (by omega)])
end Go.Proofs.YtokmkopihhnggaaGreatDoor
