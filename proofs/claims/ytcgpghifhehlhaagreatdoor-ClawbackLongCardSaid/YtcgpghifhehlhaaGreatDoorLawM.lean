/- From a walked law to its row: the arguments opened into plain readings; what stands behind the call. No program in sight. -/
import Derived.Test.YtcgpghifhehlhaaGreatDoorJfM
import Derived.ProofKit
import Derived.OpenShut
import Derived.Deep.Slices
import Derived.Test.YtcgpghifhehlhaaGreatDoorProg
import Derived.Deep.Strs
import Derived.Test.YtcgpghifhehlhaaGreatDoorAbGM
import Derived.Test.YtcgpghifhehlhaaGreatDoorVal1M
set_option linter.unusedVariables false
set_option linter.unusedSimpArgs false
namespace Go.Proofs.YtcgpghifhehlhaaGreatDoor
open Go.RowKit Go.ChangeShapes Go.WideShapes Go.ChangeAt Go.Proofs.Tryz
theorem mg {H:Type} {enc:TypeId×Value->H} {P:Program} (hl:laidOutB P=true) {W W':World} (hb:Below W.heap.size W W'):
  ∀(ts:List TypeId) (vs:List Value) (ds:List (DataW H)) (ps:List MemPlace),(∀t∈ts,P.readableRec t=true/\t<P.types.size)->(∀p∈ps,p.block<W.heap.size)->
   DataW.TrodAll enc P W 0 (fun _=>true) true ts vs ds ps->DataW.TrodAll enc P W' 0 (fun b=>decide (b<W.heap.size)) true ts vs ds ps:=by
 intro ts;induction ts with
 |nil=>
  intro vs ds ps _ _ h;obtain ⟨rfl,rfl,rfl⟩:=trodAll_nil h;exact trodAll_mk0
 |cons t ts ih=>
  intro vs ds ps hts hps h;obtain ⟨v,vs',d,ds',p,q,rfl,rfl,rfl,h0,h1⟩:=trodAll_cons h;have ht:=hts t (by simp);refine trodAll_cons_mk ?_ (ih _ _ _ (fun t' ht'=>hts t' (by simp [ht'])) (fun x hx=>hps x (by simp [hx])) h1);exact Below.trod hl ht.1 ht.2 h0 hb (fun x hx=>hps x (by simp [hx]))
theorem vi {H:Type} {enc:TypeId×Value->H} {P:Program} {fn:Func} {s:ChangeSpec} {W W':World} {args:Array Value} {ds:List (DataW H)} {before:List MemPlace} {bt:TypeId}
  (hl:laidOutB P=true) (hts:fn.params.toList.all (fun t=>P.readableRec t&&decide (t<P.types.size))=true) (hvars:s.vars=[])
  (hW:DataW.Whole enc P fn.params.toList s.vars false W args.toList ds [] before)
  (hres:(s.fn H (ds++[])).results=[.lit (.bool true)]) (hargs:(s.fn H (ds++[])).args=ds) (hrv:(s.fn H (ds++[])).vars=[])
  (hrt:fn.resultTypes= #[bt]) (hbt:P.underlying bt=some .bool) (hb:Below W.heap.size W W'):s.post enc P fn false true false false W args (.bool true) W':=by
 have hW0:=hW;obtain ⟨p,q,hA,hV,rfl,_,_⟩:=hW;rw [hvars] at hV;obtain ⟨_,hq⟩:=trodVars_none hV;have hlt:=hW0.lt;refine ⟨ds,[],p++q,[],p,[],hW0,?_,?_,?_,?_,fun h=>by cases h⟩
 ·rw [hres,hrt];exact trodAll_mk1 (shut_bool hbt true)
 ·rw [hargs];exact mg hl hb _ _ _ _ (fun t ht=>by have:=List.all_eq_true.1 hts t ht;simpa using this) (fun x hx=>hlt x (by simp [hx])) hA
 ·rw [hrv,hvars];rfl
 exact hb.frame _
def fD (P:Program) (t:TypeId) {α:Type} (R:dW α):Prop:=
 ∀(H:Type) (enc:TypeId×Value->H) (W:World) (fuel:Nat) (cs:List Value) (x:DataW H×List MemPlace),DataW.trod enc P W 0 (fun _=>true) true fuel t cs=some x->∃a,R W (LT W.heap.size) cs a
theorem vj {P:Program} {t:TypeId} (ht:P.underlying t=some (.int .u8)):fD P t rU8:=by
 intro H enc W fuel cs x h;obtain ⟨n,rfl,_,hw⟩:=DataW.trod_int ht h;have:0<=n/\n<=255:=by simpa [Lit.wf,IntKind.min,IntKind.max,IntKind.signed,IntKind.bits] using hw
 exact ⟨n.toNat,by rw [show ((n.toNat:Nat):Int)=n by omega],by omega⟩
theorem tE {P:Program} {t:TypeId} (ht:P.underlying t=some (.int .u16)):fD P t zd:=by
 intro H enc W fuel cs x h;obtain ⟨n,rfl,_,hw⟩:=DataW.trod_int ht h;have:0<=n/\n<=65535:=by simpa [Lit.wf,IntKind.min,IntKind.max,IntKind.signed,IntKind.bits] using hw
 exact ⟨n.toNat,by rw [show ((n.toNat:Nat):Int)=n by omega],by omega⟩
theorem fk {P:Program} {t:TypeId} {k:IntKind} {α:Type} {R:dW α} {H:Type} {enc:TypeId×Value->H} {W:World} {v:Value} {d:DataW H} {p:List MemPlace} {base:Nat} {rc:Reach}
  (ht:P.underlying t=some (.int k)) (hok:Value.okWide P W rc base t v) (ho:fD P t R) (h:DataW.Trod enc P W 0 (fun _=>true) true t v d p):∃l,R W (LT W.heap.size) [v] l:=by
 obtain ⟨n,rfl⟩:=okWide_int ht hok;obtain ⟨fuel,h⟩:=h;exact ho H enc W fuel _ _ h

end Go.Proofs.YtcgpghifhehlhaaGreatDoor
namespace Go.Proofs.YtcgpghifhehlhaaGreatDoor
open Go.RowKit Go.ChangeShapes Go.WideShapes Go.ChangeAt Go Go.Proofs.Tryz
def rC {α:Type} (enc:α->List C) (ok:α->Prop):dW α:=fun W T cs a=>denVs (kIn W T W) cs (enc a)/\ok a
end Go.Proofs.YtcgpghifhehlhaaGreatDoor
namespace Go.Proofs.YtcgpghifhehlhaaGreatDoor
open Go Go.RowKit Go.Proofs.Tryz

end Go.Proofs.YtcgpghifhehlhaaGreatDoor
namespace Go.Proofs.YtcgpghifhehlhaaGreatDoor
open Go.RowKit Go.Proofs.Tryz
theorem vn:qOf gZ=0:=by rw [ln,Aw]
theorem jX (n:Int) (w:World) (h0: -9223372036854775808<=n) (h1:n<=9223372036854775807):Calls prog 12 #[.int .i64 n] w fun e w'=>e= .returned (aN (enc (n:Rat)))/\Below w.heap.size w w':=by
 have I:=hid (fun w=>uU n w h0 h1);have HX:=hid (Bx1.new w);generalize enc (n:Rat)=a at *
 unfold aN at I;unfold aN;go_enter func12,ntmps12
 go_wp2_with fail
 refine Calls.mono (I.out _) ?_;rintro e w1 ⟨rfl,hb1⟩;have hx:=HX.out.next hb1;obtain ⟨t0,t1,t2,t3,t4⟩:=hx.1.facts;go_wp2
 refine bC (hx.ret a).1 (fun W' c0 c1 c2=>by simp [results,Tryz.results12,go_sem,c0,c1,c2]) rfl ⟨rfl,(hx.ret a).2⟩
end Go.Proofs.YtcgpghifhehlhaaGreatDoor
namespace Go.Proofs.YtcgpghifhehlhaaGreatDoor
open Go Go.RowKit Go.Proofs.Tryz
structure T3 where
 a:List GPart
 b:List GPart
 c:List GPart
def T3.put (T:T3) (x:Nat) (p:GPart):T3:=if x=1 then ⟨T.a++[p],T.b,T.c⟩ else if x=2 then ⟨T.a,T.b++[p],T.c⟩ else ⟨T.a,T.b,T.c++[p]⟩
theorem fG (n:Int) (h0: -9223372036854775808<=n) (h1:n<=9223372036854775807):ch prog 12 [.one (.lit (.int .i64 n))] (.val (.agg (cS (enc (n:Rat))))):=
 eE (iv func12 (by decide) (by kernel_rfl)) [.int .i64 n] (aN (enc (n:Rat))) fun w=>jX n w h0 h1
end Go.Proofs.YtcgpghifhehlhaaGreatDoor
