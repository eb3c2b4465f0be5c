/- ClawbackLong answers true for every input, and leaves its arguments as they were. The tables of unicode/utf8 that the row lists are tied to the text by the given tie; the walk does not look into them. No further condition. -/
import Derived.Test.YtcgpghifhehlhaaGreatDoorJfM
import Derived.Test.YtcgpghifhehlhaaGreatDoorCards
import Derived.Test.YtcgpghifhehlhaaGreatDoorTie
import Derived.Test.YtcgpghifhehlhaaGreatDoorAw28M
import Derived.Test.YtcgpghifhehlhaaGreatDoorLawM
import Derived.OpenShut
import Derived.Deep.DeepHandedRow
set_option linter.unusedVariables false
set_option maxRecDepth 100000
set_option linter.unusedSimpArgs false
/- ClawbackLong answers true for every input, and leaves its arguments As they were. The tables of unicode/utf8 that the row lists are tied to the text by the given tie; the walk does not look into them. No further condition. -/
namespace Go.Proofs.YtcgpghifhehlhaaGreatDoor.clawbackLong
open Go.RowKit Go.ChangeShapes Go.WideShapes Go.ChangeAt Go.Proofs.YtcgpghifhehlhaaGreatDoor Go.Proofs.Tryz
theorem own:ownKnob prog.godebug=none:=by kernel_rfl
theorem laidOut:laidOutB prog=true:=by kernel_rfl
def lay (cs:Array Value):Obj->Obj
 | .cells _ t frozen=> .cells cs t frozen
 |o=>o
noncomputable def laidWorld (os:Os):World:=
 {World.holding prog os ⟨#[],#[],[]⟩ with heap:=((World.holding prog os ⟨#[],#[],[]⟩).heap.modify 1 (lay ((Go.Pinned.utf8FirstZ.map fun n:Nat=>Value.int .u8 (n:Int)).toArray))).modify 2 (lay #[.int .u8 128,.int .u8 191,.int .u8 160,.int .u8 191,.int .u8 128,.int .u8 159,.int .u8 144,.int .u8 191,.int .u8 128,.int .u8 143,.int .u8 0,.int .u8 0,.int .u8 0,.int .u8 0,.int .u8 0,.int .u8 0,.int .u8 0,.int .u8 0,.int .u8 0,.int .u8 0,.int .u8 0,.int .u8 0,.int .u8 0,.int .u8 0,.int .u8 0,.int .u8 0,.int .u8 0,.int .u8 0,.int .u8 0,.int .u8 0,.int .u8 0,.int .u8 0])}
theorem laid_met (os:Os):laidMet prog Rows.clawbackLongRow.laid ((laidWorld os).forCall (fun _ _=>0) ⟨#[],#[.int .u8 0,.int .u8 0,.int .u16 0],[]⟩).memory:=
 laidMet_of_run' 8 (by kernel_rfl) (by kernel_rfl)
theorem reads (os:Os) {H:Type} (enc:TypeId×Value->H):∃places,DataW.whole enc prog ((laidWorld os).forCall (fun _ _=>0) ⟨#[],#[.int .u8 0,.int .u8 0,.int .u16 0],[]⟩).memory f5.params.toList Rows.clawbackLongSpec.vars false #[.int .u8 0,.int .u8 0,.int .u16 0].toList 8=some ([.lit (.int .u8 0),.lit (.int .u8 0),.lit (.int .u16 0)],[],places):=
 ⟨[],by kernel_rfl⟩
theorem contract (H:Type) (enc:TypeId×Value->H) (W:World) (base:Nat) (args:Array Value) (ds gs:List (DataW H)) (before:List MemPlace)
  (hval0:∀(j:Nat) t v,f5.params[j]? =some t->args[j]? =some v->Value.okWide prog W .any base t v)
  (hW:DataW.Whole enc prog f5.params.toList Rows.clawbackLongSpec.vars false W args.toList ds gs before):
  Calls prog 5 args W fun e W'=>∃v,e= .returned v/\Rows.clawbackLongSpec.post enc prog f5 false true false false W args v W':=by
 have hval:∀(j:Nat) t v,f5.params[j]? =some t->args[j]? =some v->Value.okWide prog W .any base t v:=hval0;have hW':=hW;obtain ⟨p,q,hA0,hV,rfl,hfz,hnd⟩:=hW;have hA:DataW.TrodAll enc prog W 0 (fun _=>true) true f5.params.toList args.toList ds p:=hA0;rw [Tryz.params5] at hA hval;obtain ⟨v0,vs0,d0,ds0,p0,q0,hargs,rfl,rfl,h0,r0⟩:=trodAll_cons hA;obtain ⟨v1,vs1,d1,ds1,p1,q1,rfl,rfl,rfl,h1,r1⟩:=trodAll_cons r0;obtain ⟨v2,vs2,d2,ds2,p2,q2,rfl,rfl,rfl,h2,r2⟩:=trodAll_cons r1;obtain ⟨rfl,rfl,rfl⟩:=trodAll_nil r2;obtain rfl:args= #[v0,v1,v2]:=by cases args;simp_all
 obtain ⟨rfl,rfl⟩:=trodVars_none hV;obtain ⟨l0,o0⟩:=fk underlying5 (hval 0 5 v0 rfl rfl) (j3) h0;obtain ⟨l1,o1⟩:=fk underlying5 (hval 1 5 v1 rfl rfl) (j3) h1;obtain ⟨l2,o2⟩:=fk underlying68 (hval 2 68 v2 rfl rfl) (dP) h2;clear hA0 hval0;refine (o4 v0 v1 v2 l0 l1 l2 W o0 o1 o2).mono fun e W' ⟨he,hb⟩=>?_
 subst he;exact ⟨_,rfl,vi laidOut (by kernel_rfl) rfl hW' rfl rfl rfl (by kernel_rfl) underlying4 hb⟩
theorem lifted (os:Os) (started:os.Started) (H:Type) (enc:TypeId×Value->H) (F:Stop.Interp):
  ReturnsInHanded {} Tryz.checked os 5 .any ((OpenSpec.ofChange Rows.clawbackLongSpec).preRow enc prog f5 Rows.clawbackLongRow.domain false Rows.clawbackLongRow.laid) (((OpenSpec.ofChange Rows.clawbackLongSpec).at F).post enc prog f5 false true false false):=by
 obtain ⟨places,hx⟩:=reads os enc;refine returnsInHanded_of_row (C:=Tryz.checked) (s:=OpenSpec.ofChange Rows.clawbackLongSpec) own started (by kernel_rfl) func5
  (witness_row_at (enc:=enc) (C:=Tryz.checked) false (laidWorld os) #[.int .u8 0,.int .u8 0,.int .u16 0] rfl (by kernel_rfl) (by kernel_rfl) (by kernel_rfl)
   (OpenSpec.preRow_of_cond 8 hx (by kernel_rfl) (fun k hk=>by cases hk) (by kernel_rfl) (laid_met os))) ?_
 intro W base args ds gs before hval hW _ _ _ _ _ _;exact contract H enc W base args ds gs before hval hW
theorem c1:jf1 Tryz.pinned.checked.prog f5 (OpenSpec.ofChange Rows.clawbackLongSpec).bare Rows.clawbackLongRow=true:=by kernel_rfl
theorem c1b:jf2 Tryz.pinned.checked.prog (OpenSpec.ofChange Rows.clawbackLongSpec).bare Rows.clawbackLongRow=true:=by kernel_rfl
theorem c1c:jf3 Tryz.pinned.checked.prog Rows.clawbackLongRow=true:=by kernel_rfl
theorem c2:(Rows.clawbackLongRow.inPlace==Tryz.pinned.checked.prog.inPlace 5)=true:=by kernel_rfl
theorem c3:(Rows.clawbackLongRow.unfollowed==Tryz.pinned.checked.prog.unfollowed 5)=true:=by kernel_rfl
theorem c4:(Rows.clawbackLongRow.recurses==Tryz.pinned.checked.prog.recurses 5)=true:=by kernel_rfl
theorem c5:(Rows.clawbackLongRow.named==Tryz.pinned.checked.prog.varsNamed 5)=true:=by kernel_rfl
theorem c6:jf6 Tryz.pinned.checked.prog f5 (OpenSpec.ofChange Rows.clawbackLongSpec).bare Rows.clawbackLongRow=true:=by kernel_rfl
theorem c7:(Rows.clawbackLongRow.plainKeys==Tryz.pinned.checked.prog.plainKeys)=true:=by kernel_rfl
theorem c8:jf8 Tryz.pinned.checked.prog Rows.clawbackLongRow=true:=by kernel_rfl
theorem c9:Tryz.pinned.checked.prog.mayEnter=true:=by kernel_rfl
theorem c10:(Rows.clawbackLongRow.lifted==Tryz.pinned.checked.prog.liftsFinal)=true:=by kernel_rfl
theorem c11:xZ Tryz.pinned.checked.prog f5 (OpenSpec.ofChange Rows.clawbackLongSpec).bare Rows.clawbackLongRow=true:=by kernel_rfl
theorem c12:x5 Tryz.pinned.checked.prog f5 (OpenSpec.ofChange Rows.clawbackLongSpec).bare Rows.clawbackLongRow=true:=by kernel_rfl
theorem closed:joinedFacts Tryz.pinned.checked.prog 5 f5 (OpenSpec.ofChange Rows.clawbackLongSpec).bare Rows.clawbackLongRow=true:=zb c1 c1b c1c c2 c3 c4 c5 c6 c7 c8 c9 c10 c11 c12
theorem s1:Tryz.pinned.checked.prog.funcNamed Rows.clawbackLongRow.func=some 5:=by kernel_rfl
theorem s2:f5.isInstance Tryz.pinned.checked.prog Rows.clawbackLongRow.origin Rows.clawbackLongRow.targs:=of_decide_eq_true (by kernel_rfl)
theorem s3:f5.isWrapper Tryz.pinned.checked.prog Rows.clawbackLongRow.wrapper Rows.clawbackLongRow.mainSum:=(by unfold Func.isWrapper;first|(rw [if_pos (by decide+kernel)];kernel_rfl)|(rw [if_neg (by decide+kernel)];exact ⟨rfl,rfl⟩))
theorem s4:false=Rows.clawbackLongRow.goesBy Tryz.pinned.checked.prog:=by kernel_rfl
theorem s5:false=Tryz.pinned.checked.prog.looks []:=by kernel_rfl
theorem s6:Rows.clawbackLongRow.wfByText (OpenSpec.ofChange Rows.clawbackLongSpec)=true:=by kernel_rfl
theorem s7:Tryz.pinned.checked.prog.mainIs=some (Rows.clawbackLongCard.stood.harness.1,Rows.clawbackLongCard.stood.harness.2.toList):=by kernel_rfl
theorem said:Rows.ClawbackLongSaid:=
 OpenClaim.holds_of_cond 5 f5 rfl rfl rfl rfl rfl rfl rfl ⟨rfl,rfl,rfl,rfl,rfl⟩ rfl rfl rfl rfl rfl s1 func5 closed
  s2 s3
  (fun os started H enc _ F=>by rw [OpenClaim.pre_eq_preRow];exact lifted os started H enc F)
theorem plain (f : FuncId) (fn : Func) (hf : Tryz.pinned.checked.prog.funcNamed "insolvency/insolvencylaw28.ClawbackLong" = some f) (hfn : Tryz.pinned.checked.prog.funcs[f]? = some fn) :
  false=Tryz.pinned.checked.prog.looks []/\∀(j:Nat) t,fn.params[j]? =some t->Tryz.pinned.checked.prog.wantsStandIn t=false:=by
 obtain rfl : f = 5 := Option.some.inj ((show prog.funcNamed "insolvency/insolvencylaw28.ClawbackLong" = some 5 from s1).symm.trans hf) |>.symm;obtain rfl:fn=f5:=(Option.some.inj (func5.symm.trans hfn)).symm;refine ⟨s5,fun j t ht=>?_⟩;rw [Tryz.params5] at ht;have hm:=Array.mem_of_getElem? ht;have:t=5∨t=5∨t=68:=by simpa using hm
 rcases this with rfl|rfl|rfl
 ·exact (show prog.wantsStandIn 5=false by kernel_rfl)
 ·exact (show prog.wantsStandIn 5=false by kernel_rfl)
 exact (show prog.wantsStandIn 68=false by kernel_rfl)
end Go.Proofs.YtcgpghifhehlhaaGreatDoor.clawbackLong
namespace Go.Proofs.YtcgpghifhehlhaaGreatDoor
theorem clawbackLong_holds:Rows.ClawbackLongCardSaid:=
 Claim7.holds_tied_plain_at .later [] _ _ _ _ clawbackLong.said (fun _ h=>by cases h) clawbackLong.s6 (fun _ h=>by cases h) clawbackLong_row_tie rfl ⟨rfl,rfl⟩ clawbackLong.s7 rfl clawbackLong.plain clawbackLong.s4
#print axioms clawbackLong_holds
end Go.Proofs.YtcgpghifhehlhaaGreatDoor
