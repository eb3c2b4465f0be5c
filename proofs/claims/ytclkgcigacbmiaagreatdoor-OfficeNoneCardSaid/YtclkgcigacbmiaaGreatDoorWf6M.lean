/- waterfall.Check; walked by the abstract machine. -/
import Derived.Test.YtclkgcigacbmiaaGreatDoorWf1M
import Derived.Test.YtclkgcigacbmiaaGreatDoorBaseM
import Derived.ProofKit
import Derived.OpenShut
import Derived.Deep.Slices
import Derived.Test.YtclkgcigacbmiaaGreatDoorProg
import Derived.Deep.Strs
import Derived.Test.YtclkgcigacbmiaaGreatDoorAbGM
import Derived.Test.YtclkgcigacbmiaaGreatDoorVal3M
import Derived.Test.YtclkgcigacbmiaaGreatDoorRef10M
set_option linter.unusedVariables false
set_option linter.unusedSimpArgs false
namespace Go.Proofs.YtclkgcigacbmiaaGreatDoor
open Go Go.RowKit Go.Proofs.Tryz

end Go.Proofs.YtclkgcigacbmiaaGreatDoor
namespace Go.Proofs.YtclkgcigacbmiaaGreatDoor
open Go.RowKit Go.ChangeShapes Go.WideShapes Go.ChangeAt Go.Proofs.Tryz
theorem jX {H:Type} {enc:TypeId×Value->H} {P:Program} (hl:laidOutB P=true) {W W':World} (hb:Below W.heap.size W W'):
  ∀(ts:List TypeId) (vs:List Value) (ds:List (DataW H)) (ps:List MemPlace),(∀t∈ts,P.readableRec t=true/\t<P.types.size)->(∀p∈ps,p.block<W.heap.size)->
   DataW.TrodAll enc P W 0 (fun _=>true) true ts vs ds ps->DataW.TrodAll enc P W' 0 (fun b=>decide (b<W.heap.size)) true ts vs ds ps:=by
 intro ts;induction ts with
 |nil=>
  intro vs ds ps _ _ h;obtain ⟨rfl,rfl,rfl⟩:=trodAll_nil h;exact trodAll_mk0
 |cons t ts ih=>
  intro vs ds ps hts hps h;obtain ⟨v,vs',d,ds',p,q,rfl,rfl,rfl,h0,h1⟩:=trodAll_cons h;have ht:=hts t (by simp);refine trodAll_cons_mk ?_ (ih _ _ _ (fun t' ht'=>hts t' (by simp [ht'])) (fun x hx=>hps x (by simp [hx])) h1);exact Below.trod hl ht.1 ht.2 h0 hb (fun x hx=>hps x (by simp [hx]))
theorem sc {H:Type} {enc:TypeId×Value->H} {P:Program} {fn:Func} {s:ChangeSpec} {W W':World} {args:Array Value} {ds:List (DataW H)} {before:List MemPlace} {bt:TypeId}
  (hl:laidOutB P=true) (hts:fn.params.toList.all (fun t=>P.readableRec t&&decide (t<P.types.size))=true) (hvars:s.vars=[])
  (hW:DataW.Whole enc P fn.params.toList s.vars false W args.toList ds [] before)
  (hres:(s.fn H (ds++[])).results=[.lit (.bool true)]) (hargs:(s.fn H (ds++[])).args=ds) (hrv:(s.fn H (ds++[])).vars=[])
  (hrt:fn.resultTypes= #[bt]) (hbt:P.underlying bt=some .bool) (hb:Below W.heap.size W W'):s.post enc P fn false true false false W args (.bool true) W':=by
 have hW0:=hW;obtain ⟨p,q,hA,hV,rfl,_,_⟩:=hW;rw [hvars] at hV;obtain ⟨_,hq⟩:=trodVars_none hV;have hlt:=hW0.lt;refine ⟨ds,[],p++q,[],p,[],hW0,?_,?_,?_,?_,fun h=>by cases h⟩
 ·rw [hres,hrt];exact trodAll_mk1 (shut_bool hbt true)
 ·rw [hargs];exact jX hl hb _ _ _ _ (fun t ht=>by have:=List.all_eq_true.1 hts t ht;simpa using this) (fun x hx=>hlt x (by simp [hx])) hA
 ·rw [hrv,hvars];rfl
 exact hb.frame _
def o8 (P:Program) (t:TypeId) {α:Type} (R:cr α):Prop:=
 ∀(H:Type) (enc:TypeId×Value->H) (W:World) (fuel:Nat) (cs:List Value) (x:DataW H×List MemPlace),DataW.trod enc P W 0 (fun _=>true) true fuel t cs=some x->∃a,R W (LT W.heap.size) cs a
theorem qe {P:Program} {t:TypeId} (ht:P.underlying t=some (.int .u16)):o8 P t xM:=by
 intro H enc W fuel cs x h;obtain ⟨n,rfl,_,hw⟩:=DataW.trod_int ht h;have:0<=n/\n<=65535:=by simpa [Lit.wf,IntKind.min,IntKind.max,IntKind.signed,IntKind.bits] using hw
 exact ⟨n.toNat,by rw [show ((n.toNat:Nat):Int)=n by omega],by omega⟩

end Go.Proofs.YtclkgcigacbmiaaGreatDoor
namespace Go.Proofs.YtclkgcigacbmiaaGreatDoor
open Go.RowKit Go.ChangeShapes Go.WideShapes Go.ChangeAt Go Go.Proofs.Tryz
def rC {α:Type} (enc:α->List C) (ok:α->Prop):cr α:=fun W T cs a=>denVs (kIn W T W) cs (enc a)/\ok a
end Go.Proofs.YtclkgcigacbmiaaGreatDoor
namespace Go.Proofs.YtclkgcigacbmiaaGreatDoor
open Go Go.RowKit Go.Proofs.Tryz











theorem z8 (r1 r2:GRat) (m n:Nat) (h1:sB m r1) (h2:sB n r2) (hm:m<=100000000000) (hn:n<=100000000000) (hm0:0<m) (hn0:0<n):ACall prog 93 [.agg (bk r1),.agg (bk r2)] (.val (.agg (bk (enc (qOf r1+qOf r2))))):=
 aJ (aV func93 (by decide) (by kernel_rfl)) [az r1,az r2] (az (enc (qOf r1+qOf r2))) fun w=>rW r1 r2 m n w h1 h2 hm hn hm0 hn0
theorem Aa (r1 r2:GRat) (m n:Nat) (h1:sB m r1) (h2:sB n r2) (hm:m<=100000000000) (hn:n<=100000000000) (hm0:0<m) (hn0:0<n):ACall prog 94 [.agg (bk r1),.agg (bk r2)] (.val (.agg (bk (enc (qOf r1-qOf r2))))):=
 aJ (aV func94 (by decide) (by kernel_rfl)) [az r1,az r2] (az (enc (qOf r1-qOf r2))) fun w=>jV r1 r2 m n w h1 h2 hm hn hm0 hn0
theorem Ab (r1 r2:GRat) (m n:Nat) (h1:sB m r1) (h2:sB n r2) (hm:m<=100000000000) (hn:n<=100000000000) (hm0:0<m) (hn0:0<n):ACall prog 200 [.agg (bk r1),.agg (bk r2)] (.val (.agg (bk (enc (qOf r1*qOf r2))))):=
 aJ (aV func200 (by decide) (by kernel_rfl)) [az r1,az r2] (az (enc (qOf r1*qOf r2))) fun w=>jW r1 r2 m n w h1 h2 hm hn hm0 hn0
theorem Ac (n:Int) (h0: -9223372036854775808<=n) (h1:n<=9223372036854775807):ACall prog 102 [.one (.lit (.int .i64 n))] (.val (.agg (bk (enc (n:Rat))))):=
 aJ (aV func102 (by decide) (by kernel_rfl)) [.int .i64 n] (az (enc (n:Rat))) fun w=>rP n w h0 h1
abbrev WP:=Int×Rat
abbrev WT:=List WP
structure WR where
 cl:List Rat
 rv:Rat
def WR.add (R:WR) (c:Int) (a:Rat):WR:=if c= -1 then ⟨R.cl,R.rv+a⟩ else ⟨R.cl.set c.toNat (R.cl.getD c.toNat 0+a),R.rv⟩
def WR.B (n:Nat) (R:WR):Prop:=(∀x∈R.cl,qB n x)/\qB n R.rv
theorem WR.B.mono {m n:Nat} {R:WR} (h:R.B m) (hm:m<=n):R.B n:=⟨fun x hx=>(h.1 x hx).mono hm,h.2.mono hm⟩
theorem WR.B.pos {n:Nat} {R:WR} (h:R.B n):0<n:=h.2.pos
theorem qB.inv {n:Nat} {q:Rat} (h:qB n q):qB n q⁻¹:=by
 have hp:=h.pos;by_cases h0:q=0
 ·subst h0;rw [Rat.inv_zero];exact h
 have h1:q⁻¹=mkRat (sg (aG q) q.den) q.num.natAbs:=by
  have h2:=oY (p:=1) h0;rw [Rat.div_def,Rat.one_mul] at h2;rw [h2];have e1:aG 1=false:=by unfold aG;simp
  rw [e1];simp
 rw [h1];refine jD ?_ h.1 hp;rw [cw];exact h.2
theorem qB.div {m n:Nat} {p q:Rat} (hp:qB m p) (hq:qB n q):qB (m+n) (p/q):=by
 rw [Rat.div_def];exact hp.mul hq.inv
end Go.Proofs.YtclkgcigacbmiaaGreatDoor
