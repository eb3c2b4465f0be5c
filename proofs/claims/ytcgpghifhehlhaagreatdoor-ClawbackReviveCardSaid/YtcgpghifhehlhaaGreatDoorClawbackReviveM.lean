/- ClawbackRevive answers true for every input, and leaves its arguments as they were. The tables of unicode/utf8 that the row lists are tied to the text by the given tie; the walk does not look into them. No further condition. -/
import Derived.Test.YtcgpghifhehlhaaGreatDoorJfM
import Derived.Test.YtcgpghifhehlhaaGreatDoorCards
import Derived.Test.YtcgpghifhehlhaaGreatDoorTie
import Derived.Test.YtcgpghifhehlhaaGreatDoorAw28M
import Derived.Test.YtcgpghifhehlhaaGreatDoorLawM
import Derived.OpenShut
import Derived.Deep.DeepHandedRow
set_option linter.unusedVariables false
set_option maxRecDepth 100000
set_option linter.unusedSimpArgs false
/- ClawbackRevive answers true for every input, and leaves its arguments As they were. The tables of unicode/utf8 that the row lists are tied to the text by the given tie; the walk does not look into them. No further condition. -/
namespace Go.Proofs.YtcgpghifhehlhaaGreatDoor.clawbackRevive
open Go.RowKit Go.ChangeShapes Go.WideShapes Go.ChangeAt Go.Proofs.YtcgpghifhehlhaaGreatDoor Go.Proofs.Tryz
theorem own:ownKnob prog.godebug=none:=by kernel_rfl
theorem laidOut:laidOutB prog=true:=by kernel_rfl
def lay (cs:Array Value):Obj->Obj
 | .cells _ t frozen=> .cells cs t frozen
 |o=>o
noncomputable def laidWorld (os:Os):World:=
 {World.holding prog os ⟨#[],#[],[]⟩ with heap:=((World.holding prog os ⟨#[],#[],[]⟩).heap.modify 1 (lay ((Go.Pinned.utf8FirstZ.map fun n:Nat=>Value.int .u8 (n:Int)).toArray))).modify 2 (lay #[.int .u8 128,.int .u8 191,.int .u8 160,.int .u8 191,.int .u8 128,.int .u8 159,.int .u8 144,.int .u8 191,.int .u8 128,.int .u8 143,.int .u8 0,.int .u8 0,.int .u8 0,.int .u8 0,.int .u8 0,.int .u8 0,.int .u8 0,.int .u8 0,.int .u8 0,.int .u8 0,.int .u8 0,.int .u8 0,.int .u8 0,.int .u8 0,.int .u8 0,.int .u8 0,.int .u8 0,.int .u8 0,.int .u8 0,.int .u8 0,.int .u8 0,.int .u8 0])}
theorem laid_met (os:Os):laidMet prog Rows.clawbackReviveRow.laid ((laidWorld os).forCall (fun _ _=>0) ⟨#[],#[.int .u8 0,.slice none 0 0,.slice none 0 0,.slice none 0 0,.slice none 0 0,.slice none 0 0,.int .u8 0,.int .u8 0],[]⟩).memory:=
 laidMet_of_run' 8 (by kernel_rfl) (by kernel_rfl)
theorem reads (os:Os) {H:Type} (enc:TypeId×Value->H):∃places,DataW.whole enc prog ((laidWorld os).forCall (fun _ _=>0) ⟨#[],#[.int .u8 0,.slice none 0 0,.slice none 0 0,.slice none 0 0,.slice none 0 0,.slice none 0 0,.int .u8 0,.int .u8 0],[]⟩).memory f4.params.toList Rows.clawbackReviveSpec.vars false #[.int .u8 0,.slice none 0 0,.slice none 0 0,.slice none 0 0,.slice none 0 0,.slice none 0 0,.int .u8 0,.int .u8 0].toList 8=some ([.lit (.int .u8 0),.nil,.nil,.nil,.nil,.nil,.lit (.int .u8 0),.lit (.int .u8 0)],[],places):=
 ⟨[],by kernel_rfl⟩
theorem contract (H:Type) (enc:TypeId×Value->H) (W:World) (base:Nat) (args:Array Value) (ds gs:List (DataW H)) (before:List MemPlace)
  (hval0:∀(j:Nat) t v,f4.params[j]? =some t->args[j]? =some v->Value.okWide prog W .any base t v)
  (hW:DataW.Whole enc prog f4.params.toList Rows.clawbackReviveSpec.vars false W args.toList ds gs before):
  Calls prog 4 args W fun e W'=>∃v,e= .returned v/\Rows.clawbackReviveSpec.post enc prog f4 false true false false W args v W':=by
 have hval:∀(j:Nat) t v,f4.params[j]? =some t->args[j]? =some v->Value.okWide prog W .any base t v:=hval0;have hW':=hW;obtain ⟨p,q,hA0,hV,rfl,hfz,hnd⟩:=hW;have hA:DataW.TrodAll enc prog W 0 (fun _=>true) true f4.params.toList args.toList ds p:=hA0;rw [Tryz.params4] at hA hval;obtain ⟨v0,vs0,d0,ds0,p0,q0,hargs,rfl,rfl,h0,r0⟩:=trodAll_cons hA;obtain ⟨v1,vs1,d1,ds1,p1,q1,rfl,rfl,rfl,h1,r1⟩:=trodAll_cons r0;obtain ⟨v2,vs2,d2,ds2,p2,q2,rfl,rfl,rfl,h2,r2⟩:=trodAll_cons r1;obtain ⟨v3,vs3,d3,ds3,p3,q3,rfl,rfl,rfl,h3,r3⟩:=trodAll_cons r2;obtain ⟨v4,vs4,d4,ds4,p4,q4,rfl,rfl,rfl,h4,r4⟩:=trodAll_cons r3;obtain ⟨v5,vs5,d5,ds5,p5,q5,rfl,rfl,rfl,h5,r5⟩:=trodAll_cons r4;obtain ⟨v6,vs6,d6,ds6,p6,q6,rfl,rfl,rfl,h6,r6⟩:=trodAll_cons r5;obtain ⟨v7,vs7,d7,ds7,p7,q7,rfl,rfl,rfl,h7,r7⟩:=trodAll_cons r6;obtain ⟨rfl,rfl,rfl⟩:=trodAll_nil r7;obtain rfl:args= #[v0,v1,v2,v3,v4,v5,v6,v7]:=by cases args;simp_all
 obtain ⟨rfl,rfl⟩:=trodVars_none hV;obtain ⟨l0,o0⟩:=fk underlying5 (hval 0 5 v0 rfl rfl) (j3) h0;obtain ⟨l1,o1⟩:=fE underlying56 (hval 1 56 v1 rfl rfl) (Ky) h1;obtain ⟨l2,o2⟩:=fE underlying22 (hval 2 22 v2 rfl rfl) (rd) h2;obtain ⟨l3,o3⟩:=fE underlying23 (hval 3 23 v3 rfl rfl) (lY) h3;obtain ⟨l4,o4⟩:=fE underlying23 (hval 4 23 v4 rfl rfl) (lY) h4;obtain ⟨l5,o5⟩:=fE underlying22 (hval 5 22 v5 rfl rfl) (rd) h5;obtain ⟨l6,o6⟩:=fk underlying5 (hval 6 5 v6 rfl rfl) (j3) h6;obtain ⟨l7,o7⟩:=fk underlying5 (hval 7 5 v7 rfl rfl) (j3) h7;clear hA0 hval0;refine (LA v0 v1 v2 v3 v4 v5 v6 v7 l0 l1 l2 l3 l4 l5 l6 l7 W o0 o1 o2 o3 o4 o5 o6 o7).mono fun e W' ⟨he,hb⟩=>?_
 subst he;exact ⟨_,rfl,vi laidOut (by kernel_rfl) rfl hW' rfl rfl rfl (by kernel_rfl) underlying4 hb⟩
theorem lifted (os:Os) (started:os.Started) (H:Type) (enc:TypeId×Value->H) (F:Stop.Interp):
  ReturnsInHanded {} Tryz.checked os 4 .any ((OpenSpec.ofChange Rows.clawbackReviveSpec).preRow enc prog f4 Rows.clawbackReviveRow.domain false Rows.clawbackReviveRow.laid) (((OpenSpec.ofChange Rows.clawbackReviveSpec).at F).post enc prog f4 false true false false):=by
 obtain ⟨places,hx⟩:=reads os enc;refine returnsInHanded_of_row (C:=Tryz.checked) (s:=OpenSpec.ofChange Rows.clawbackReviveSpec) own started (by kernel_rfl) func4
  (witness_row_at (enc:=enc) (C:=Tryz.checked) false (laidWorld os) #[.int .u8 0,.slice none 0 0,.slice none 0 0,.slice none 0 0,.slice none 0 0,.slice none 0 0,.int .u8 0,.int .u8 0] rfl (by kernel_rfl) (by kernel_rfl) (by kernel_rfl)
   (OpenSpec.preRow_of_cond 8 hx (by kernel_rfl) (fun k hk=>by cases hk) (by kernel_rfl) (laid_met os))) ?_
 intro W base args ds gs before hval hW _ _ _ _ _ _;exact contract H enc W base args ds gs before hval hW
theorem c1:jf1 Tryz.pinned.checked.prog f4 (OpenSpec.ofChange Rows.clawbackReviveSpec).bare Rows.clawbackReviveRow=true:=by kernel_rfl
theorem c1b:jf2 Tryz.pinned.checked.prog (OpenSpec.ofChange Rows.clawbackReviveSpec).bare Rows.clawbackReviveRow=true:=by kernel_rfl
theorem c1c:jf3 Tryz.pinned.checked.prog Rows.clawbackReviveRow=true:=by kernel_rfl
theorem c2:(Rows.clawbackReviveRow.inPlace==Tryz.pinned.checked.prog.inPlace 4)=true:=by kernel_rfl
theorem c3:(Rows.clawbackReviveRow.unfollowed==Tryz.pinned.checked.prog.unfollowed 4)=true:=by kernel_rfl
theorem c4:(Rows.clawbackReviveRow.recurses==Tryz.pinned.checked.prog.recurses 4)=true:=by kernel_rfl
theorem c5:(Rows.clawbackReviveRow.named==Tryz.pinned.checked.prog.varsNamed 4)=true:=by kernel_rfl
theorem c6:jf6 Tryz.pinned.checked.prog f4 (OpenSpec.ofChange Rows.clawbackReviveSpec).bare Rows.clawbackReviveRow=true:=by kernel_rfl
theorem c7:(Rows.clawbackReviveRow.plainKeys==Tryz.pinned.checked.prog.plainKeys)=true:=by kernel_rfl
theorem c8:jf8 Tryz.pinned.checked.prog Rows.clawbackReviveRow=true:=by kernel_rfl
theorem c9:Tryz.pinned.checked.prog.mayEnter=true:=by kernel_rfl
theorem c10:(Rows.clawbackReviveRow.lifted==Tryz.pinned.checked.prog.liftsFinal)=true:=by kernel_rfl
theorem c11:xZ Tryz.pinned.checked.prog f4 (OpenSpec.ofChange Rows.clawbackReviveSpec).bare Rows.clawbackReviveRow=true:=by kernel_rfl
theorem c12:x5 Tryz.pinned.checked.prog f4 (OpenSpec.ofChange Rows.clawbackReviveSpec).bare Rows.clawbackReviveRow=true:=by kernel_rfl
theorem closed:joinedFacts Tryz.pinned.checked.prog 4 f4 (OpenSpec.ofChange Rows.clawbackReviveSpec).bare Rows.clawbackReviveRow=true:=zb c1 c1b c1c c2 c3 c4 c5 c6 c7 c8 c9 c10 c11 c12
theorem s1:Tryz.pinned.checked.prog.funcNamed Rows.clawbackReviveRow.func=some 4:=by kernel_rfl
theorem s2:f4.isInstance Tryz.pinned.checked.prog Rows.clawbackReviveRow.origin Rows.clawbackReviveRow.targs:=of_decide_eq_true (by kernel_rfl)
theorem s3:f4.isWrapper Tryz.pinned.checked.prog Rows.clawbackReviveRow.wrapper Rows.clawbackReviveRow.mainSum:=(by unfold Func.isWrapper;first|(rw [if_pos (by decide+kernel)];kernel_rfl)|(rw [if_neg (by decide+kernel)];exact ⟨rfl,rfl⟩))
theorem s4:false=Rows.clawbackReviveRow.goesBy Tryz.pinned.checked.prog:=by kernel_rfl
theorem s5:false=Tryz.pinned.checked.prog.looks []:=by kernel_rfl
theorem s6:Rows.clawbackReviveRow.wfByText (OpenSpec.ofChange Rows.clawbackReviveSpec)=true:=by kernel_rfl
theorem s7:Tryz.pinned.checked.prog.mainIs=some (Rows.clawbackReviveCard.stood.harness.1,Rows.clawbackReviveCard.stood.harness.2.toList):=by kernel_rfl
theorem said:Rows.ClawbackReviveSaid:=
 OpenClaim.holds_of_cond 4 f4 rfl rfl rfl rfl rfl rfl rfl ⟨rfl,rfl,rfl,rfl,rfl⟩ rfl rfl rfl rfl rfl s1 func4 closed
  s2 s3
  (fun os started H enc _ F=>by rw [OpenClaim.pre_eq_preRow];exact lifted os started H enc F)
theorem plain (f : FuncId) (fn : Func) (hf : Tryz.pinned.checked.prog.funcNamed "insolvency/insolvencylaw28.ClawbackRevive" = some f) (hfn : Tryz.pinned.checked.prog.funcs[f]? = some fn) :
  false=Tryz.pinned.checked.prog.looks []/\∀(j:Nat) t,fn.params[j]? =some t->Tryz.pinned.checked.prog.wantsStandIn t=false:=by
 obtain rfl : f = 4 := Option.some.inj ((show prog.funcNamed "insolvency/insolvencylaw28.ClawbackRevive" = some 4 from s1).symm.trans hf) |>.symm;obtain rfl:fn=f4:=(Option.some.inj (func4.symm.trans hfn)).symm;refine ⟨s5,fun j t ht=>?_⟩;rw [Tryz.params4] at ht;have hm:=Array.mem_of_getElem? ht;have:t=5∨t=56∨t=22∨t=23∨t=23∨t=22∨t=5∨t=5:=by simpa using hm
 rcases this with rfl|rfl|rfl|rfl|rfl|rfl|rfl|rfl
 ·exact (show prog.wantsStandIn 5=false by kernel_rfl)
 ·exact (show prog.wantsStandIn 56=false by kernel_rfl)
 ·exact (show prog.wantsStandIn 22=false by kernel_rfl)
 ·exact (show prog.wantsStandIn 23=false by kernel_rfl)
 ·exact (show prog.wantsStandIn 23=false by kernel_rfl)
 ·exact (show prog.wantsStandIn 22=false by kernel_rfl)
 ·exact (show prog.wantsStandIn 5=false by kernel_rfl)
 exact (show prog.wantsStandIn 5=false by kernel_rfl)
end Go.Proofs.YtcgpghifhehlhaaGreatDoor.clawbackRevive
namespace Go.Proofs.YtcgpghifhehlhaaGreatDoor
theorem clawbackRevive_holds:Rows.ClawbackReviveCardSaid:=
 Claim7.holds_tied_plain_at .later [] _ _ _ _ clawbackRevive.said (fun _ h=>by cases h) clawbackRevive.s6 (fun _ h=>by cases h) clawbackRevive_row_tie rfl ⟨rfl,rfl⟩ clawbackRevive.s7 rfl clawbackRevive.plain clawbackRevive.s4
#print axioms clawbackRevive_holds
end Go.Proofs.YtcgpghifhehlhaaGreatDoor
