/- ClawbackMany answers true for every input, and leaves its arguments as they were. The tables of unicode/utf8 that the row lists are tied to the text by the given tie; the walk does not look into them. No further condition. -/
import Derived.Test.YtcgpghifhehlhaaGreatDoorJfM
import Derived.Test.YtcgpghifhehlhaaGreatDoorCards
import Derived.Test.YtcgpghifhehlhaaGreatDoorTie
import Derived.Test.YtcgpghifhehlhaaGreatDoorAw28M
import Derived.Test.YtcgpghifhehlhaaGreatDoorEqsM
import Derived.OpenShut
import Derived.Deep.DeepHandedRow
set_option linter.unusedVariables false
set_option maxRecDepth 100000
set_option linter.unusedSimpArgs false
/- ClawbackMany answers true for every input, and leaves its arguments As they were. The tables of unicode/utf8 that the row lists are tied to the text by the given tie; the walk does not look into them. No further condition. -/
namespace Go.Proofs.YtcgpghifhehlhaaGreatDoor.clawbackMany
open Go.RowKit Go.ChangeShapes Go.WideShapes Go.ChangeAt Go.Proofs.YtcgpghifhehlhaaGreatDoor Go.Proofs.Tryz
theorem own:ownKnob prog.godebug=none:=by kernel_rfl
theorem laidOut:laidOutB prog=true:=by kernel_rfl
def lay (cs:Array Value):Obj->Obj
 | .cells _ t frozen=> .cells cs t frozen
 |o=>o
noncomputable def laidWorld (os:Os):World:=
 {World.holding prog os ⟨#[],#[],[]⟩ with heap:=((World.holding prog os ⟨#[],#[],[]⟩).heap.modify 1 (lay ((Go.Pinned.utf8FirstZ.map fun n:Nat=>Value.int .u8 (n:Int)).toArray))).modify 2 (lay #[.int .u8 128,.int .u8 191,.int .u8 160,.int .u8 191,.int .u8 128,.int .u8 159,.int .u8 144,.int .u8 191,.int .u8 128,.int .u8 143,.int .u8 0,.int .u8 0,.int .u8 0,.int .u8 0,.int .u8 0,.int .u8 0,.int .u8 0,.int .u8 0,.int .u8 0,.int .u8 0,.int .u8 0,.int .u8 0,.int .u8 0,.int .u8 0,.int .u8 0,.int .u8 0,.int .u8 0,.int .u8 0,.int .u8 0,.int .u8 0,.int .u8 0,.int .u8 0])}
theorem laid_met (os:Os):laidMet prog Rows.clawbackManyRow.laid ((laidWorld os).forCall (fun _ _=>0) ⟨#[],#[.int .u8 0,.int .u8 0,.bool false],[]⟩).memory:=
 laidMet_of_run' 8 (by kernel_rfl) (by kernel_rfl)
theorem reads (os:Os) {H:Type} (enc:TypeId×Value->H):∃places,DataW.whole enc prog ((laidWorld os).forCall (fun _ _=>0) ⟨#[],#[.int .u8 0,.int .u8 0,.bool false],[]⟩).memory f8.params.toList Rows.clawbackManySpec.vars false #[.int .u8 0,.int .u8 0,.bool false].toList 8=some ([.lit (.int .u8 0),.lit (.int .u8 0),.lit (.bool false)],[],places):=
 ⟨[],by kernel_rfl⟩
theorem contract (H:Type) (enc:TypeId×Value->H) (W:World) (base:Nat) (args:Array Value) (ds gs:List (DataW H)) (before:List MemPlace)
  (hval0:∀(j:Nat) t v,f8.params[j]? =some t->args[j]? =some v->Value.okWide prog W .any base t v)
  (hW:DataW.Whole enc prog f8.params.toList Rows.clawbackManySpec.vars false W args.toList ds gs before):
  Calls prog 8 args W fun e W'=>∃v,e= .returned v/\Rows.clawbackManySpec.post enc prog f8 false true false false W args v W':=by
 have hval:∀(j:Nat) t v,f8.params[j]? =some t->args[j]? =some v->Value.okWide prog W .any base t v:=hval0;have hW':=hW;obtain ⟨p,q,hA0,hV,rfl,hfz,hnd⟩:=hW;have hA:DataW.TrodAll enc prog W 0 (fun _=>true) true f8.params.toList args.toList ds p:=hA0;rw [Tryz.params8] at hA hval;obtain ⟨v0,vs0,d0,ds0,p0,q0,hargs,rfl,rfl,h0,r0⟩:=trodAll_cons hA;obtain ⟨v1,vs1,d1,ds1,p1,q1,rfl,rfl,rfl,h1,r1⟩:=trodAll_cons r0;obtain ⟨v2,vs2,d2,ds2,p2,q2,rfl,rfl,rfl,h2,r2⟩:=trodAll_cons r1;obtain ⟨rfl,rfl,rfl⟩:=trodAll_nil r2;obtain rfl:args= #[v0,v1,v2]:=by cases args;simp_all
 obtain ⟨rfl,rfl⟩:=trodVars_none hV;obtain ⟨l0,o0⟩:=fk underlying5 (hval 0 5 v0 rfl rfl) (j3) h0;obtain ⟨l1,o1⟩:=fk underlying5 (hval 1 5 v1 rfl rfl) (j3) h1;obtain ⟨l2,o2⟩:=I4 underlying4 (hval 2 4 v2 rfl rfl) (I6) h2;clear hA0 hval0;refine (Jb v0 v1 v2 l0 l1 l2 W o0 o1 o2).mono fun e W' ⟨he,hb⟩=>?_
 subst he;exact ⟨_,rfl,vi laidOut (by kernel_rfl) rfl hW' rfl rfl rfl (by kernel_rfl) underlying4 hb⟩
theorem lifted (os:Os) (started:os.Started) (H:Type) (enc:TypeId×Value->H) (F:Stop.Interp):
  ReturnsInHanded {} Tryz.checked os 8 .any ((OpenSpec.ofChange Rows.clawbackManySpec).preRow enc prog f8 Rows.clawbackManyRow.domain false Rows.clawbackManyRow.laid) (((OpenSpec.ofChange Rows.clawbackManySpec).at F).post enc prog f8 false true false false):=by
 obtain ⟨places,hx⟩:=reads os enc;refine returnsInHanded_of_row (C:=Tryz.checked) (s:=OpenSpec.ofChange Rows.clawbackManySpec) own started (by kernel_rfl) func8
  (witness_row_at (enc:=enc) (C:=Tryz.checked) false (laidWorld os) #[.int .u8 0,.int .u8 0,.bool false] rfl (by kernel_rfl) (by kernel_rfl) (by kernel_rfl)
   (OpenSpec.preRow_of_cond 8 hx (by kernel_rfl) (fun k hk=>by cases hk) (by kernel_rfl) (laid_met os))) ?_
 intro W base args ds gs before hval hW _ _ _ _ _ _;exact contract H enc W base args ds gs before hval hW
theorem c1:jf1 Tryz.pinned.checked.prog f8 (OpenSpec.ofChange Rows.clawbackManySpec).bare Rows.clawbackManyRow=true:=by kernel_rfl
theorem c1b:jf2 Tryz.pinned.checked.prog (OpenSpec.ofChange Rows.clawbackManySpec).bare Rows.clawbackManyRow=true:=by kernel_rfl
theorem c1c:jf3 Tryz.pinned.checked.prog Rows.clawbackManyRow=true:=by kernel_rfl
theorem c2:(Rows.clawbackManyRow.inPlace==Tryz.pinned.checked.prog.inPlace 8)=true:=by kernel_rfl
theorem c3:(Rows.clawbackManyRow.unfollowed==Tryz.pinned.checked.prog.unfollowed 8)=true:=by kernel_rfl
theorem c4:(Rows.clawbackManyRow.recurses==Tryz.pinned.checked.prog.recurses 8)=true:=by kernel_rfl
theorem c5:(Rows.clawbackManyRow.named==Tryz.pinned.checked.prog.varsNamed 8)=true:=by kernel_rfl
theorem c6:jf6 Tryz.pinned.checked.prog f8 (OpenSpec.ofChange Rows.clawbackManySpec).bare Rows.clawbackManyRow=true:=by kernel_rfl
theorem c7:(Rows.clawbackManyRow.plainKeys==Tryz.pinned.checked.prog.plainKeys)=true:=by kernel_rfl
theorem c8:jf8 Tryz.pinned.checked.prog Rows.clawbackManyRow=true:=by kernel_rfl
theorem c9:Tryz.pinned.checked.prog.mayEnter=true:=by kernel_rfl
theorem c10:(Rows.clawbackManyRow.lifted==Tryz.pinned.checked.prog.liftsFinal)=true:=by kernel_rfl
theorem c11:xZ Tryz.pinned.checked.prog f8 (OpenSpec.ofChange Rows.clawbackManySpec).bare Rows.clawbackManyRow=true:=by kernel_rfl
theorem c12:x5 Tryz.pinned.checked.prog f8 (OpenSpec.ofChange Rows.clawbackManySpec).bare Rows.clawbackManyRow=true:=by kernel_rfl
theorem closed:joinedFacts Tryz.pinned.checked.prog 8 f8 (OpenSpec.ofChange Rows.clawbackManySpec).bare Rows.clawbackManyRow=true:=zb c1 c1b c1c c2 c3 c4 c5 c6 c7 c8 c9 c10 c11 c12
theorem s1:Tryz.pinned.checked.prog.funcNamed Rows.clawbackManyRow.func=some 8:=by kernel_rfl
theorem s2:f8.isInstance Tryz.pinned.checked.prog Rows.clawbackManyRow.origin Rows.clawbackManyRow.targs:=of_decide_eq_true (by kernel_rfl)
theorem s3:f8.isWrapper Tryz.pinned.checked.prog Rows.clawbackManyRow.wrapper Rows.clawbackManyRow.mainSum:=(by unfold Func.isWrapper;first|(rw [if_pos (by decide+kernel)];kernel_rfl)|(rw [if_neg (by decide+kernel)];exact ⟨rfl,rfl⟩))
theorem s4:false=Rows.clawbackManyRow.goesBy Tryz.pinned.checked.prog:=by kernel_rfl
theorem s5:false=Tryz.pinned.checked.prog.looks []:=by kernel_rfl
theorem s6:Rows.clawbackManyRow.wfByText (OpenSpec.ofChange Rows.clawbackManySpec)=true:=by kernel_rfl
theorem s7:Tryz.pinned.checked.prog.mainIs=some (Rows.clawbackManyCard.stood.harness.1,Rows.clawbackManyCard.stood.harness.2.toList):=by kernel_rfl
theorem said:Rows.ClawbackManySaid:=
 OpenClaim.holds_of_cond 8 f8 rfl rfl rfl rfl rfl rfl rfl ⟨rfl,rfl,rfl,rfl,rfl⟩ rfl rfl rfl rfl rfl s1 func8 closed
  s2 s3
  (fun os started H enc _ F=>by rw [OpenClaim.pre_eq_preRow];exact lifted os started H enc F)
theorem plain (f : FuncId) (fn : Func) (hf : Tryz.pinned.checked.prog.funcNamed "insolvency/insolvencylaw28.ClawbackMany" = some f) (hfn : Tryz.pinned.checked.prog.funcs[f]? = some fn) :
  false=Tryz.pinned.checked.prog.looks []/\∀(j:Nat) t,fn.params[j]? =some t->Tryz.pinned.checked.prog.wantsStandIn t=false:=by
 obtain rfl : f = 8 := Option.some.inj ((show prog.funcNamed "insolvency/insolvencylaw28.ClawbackMany" = some 8 from s1).symm.trans hf) |>.symm;obtain rfl:fn=f8:=(Option.some.inj (func8.symm.trans hfn)).symm;refine ⟨s5,fun j t ht=>?_⟩;rw [Tryz.params8] at ht;have hm:=Array.mem_of_getElem? ht;have:t=5∨t=5∨t=4:=by simpa using hm
 rcases this with rfl|rfl|rfl
 ·exact (show prog.wantsStandIn 5=false by kernel_rfl)
 ·exact (show prog.wantsStandIn 5=false by kernel_rfl)
 exact (show prog.wantsStandIn 4=false by kernel_rfl)
end Go.Proofs.YtcgpghifhehlhaaGreatDoor.clawbackMany
namespace Go.Proofs.YtcgpghifhehlhaaGreatDoor
theorem clawbackMany_holds:Rows.ClawbackManyCardSaid:=
 Claim7.holds_tied_plain_at .later [] _ _ _ _ clawbackMany.said (fun _ h=>by cases h) clawbackMany.s6 (fun _ h=>by cases h) clawbackMany_row_tie rfl ⟨rfl,rfl⟩ clawbackMany.s7 rfl clawbackMany.plain clawbackMany.s4
#print axioms clawbackMany_holds
end Go.Proofs.YtcgpghifhehlhaaGreatDoor
