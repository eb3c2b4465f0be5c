/- WaterfallRaw answers true for every input, and leaves its arguments as they were. The tables of unicode/utf8 that the row lists are tied to the text by the given tie; the walk does not look into them. No further condition. -/
import Derived.Test.YtokmkopihhnggaaGreatDoorJfM
import Derived.Test.YtokmkopihhnggaaGreatDoorCards
import Derived.Test.YtokmkopihhnggaaGreatDoorTie
import Derived.Test.YtokmkopihhnggaaGreatDoorLWXM
import Derived.Test.YtokmkopihhnggaaGreatDoorWf6M
import Derived.OpenShut
import Derived.Deep.DeepHandedRow
set_option linter.unusedVariables false
set_option maxRecDepth 100000
set_option linter.unusedSimpArgs false
/- WaterfallRaw answers true for every input, and leaves its arguments Jb they were. The tables of unicode/utf8 that the row lists are tied to the text by the given tie; the walk does not look into them. No further condition. -/
namespace Go.Proofs.YtokmkopihhnggaaGreatDoor.waterfallRaw
open Go.RowKit Go.ChangeShapes Go.WideShapes Go.ChangeAt Go.Proofs.YtokmkopihhnggaaGreatDoor Go.Proofs.Tryz
theorem own:ownKnob prog.godebug=none:=by kernel_rfl
theorem laidOut:laidOutB prog=true:=by kernel_rfl
def lay (cs:Array Value):Obj->Obj
 | .cells _ t frozen=> .cells cs t frozen
 |o=>o
noncomputable def laidWorld (os:Os):World:=
 {World.holding prog os ⟨#[],#[],[]⟩ with heap:=((World.holding prog os ⟨#[],#[],[]⟩).heap.modify 1 (lay ((Go.Pinned.utf8FirstZ.map fun n:Nat=>Value.int .u8 (n:Int)).toArray))).modify 2 (lay #[.int .u8 128,.int .u8 191,.int .u8 160,.int .u8 191,.int .u8 128,.int .u8 159,.int .u8 144,.int .u8 191,.int .u8 128,.int .u8 143,.int .u8 0,.int .u8 0,.int .u8 0,.int .u8 0,.int .u8 0,.int .u8 0,.int .u8 0,.int .u8 0,.int .u8 0,.int .u8 0,.int .u8 0,.int .u8 0,.int .u8 0,.int .u8 0,.int .u8 0,.int .u8 0,.int .u8 0,.int .u8 0,.int .u8 0,.int .u8 0,.int .u8 0,.int .u8 0])}
theorem laid_met (os:Os):laidMet prog Rows.waterfallRawRow.laid ((laidWorld os).forCall (fun _ _=>0) ⟨#[],#[.agg #[.bool false,.string ay,.string ay,.slice none 0 0,.slice none 0 0],.agg #[.bool false,.string ay,.string ay]],[]⟩).memory:=
 laidMet_of_run' 8 (by kernel_rfl) (by kernel_rfl)
theorem reads (os:Os) {H:Type} (enc:TypeId×Value->H):∃places,DataW.whole enc prog ((laidWorld os).forCall (fun _ _=>0) ⟨#[],#[.agg #[.bool false,.string ay,.string ay,.slice none 0 0,.slice none 0 0],.agg #[.bool false,.string ay,.string ay]],[]⟩).memory f10.params.toList Rows.waterfallRawSpec.vars false #[.agg #[.bool false,.string ay,.string ay,.slice none 0 0,.slice none 0 0],.agg #[.bool false,.string ay,.string ay]].toList 8=some ([.agg [.agg [.lit (.bool false),.lit (.string []),.lit (.string [])],.nil,.nil],.agg [.lit (.bool false),.lit (.string []),.lit (.string [])]],[],places):=
 ⟨[],by kernel_rfl⟩
theorem contract (H:Type) (enc:TypeId×Value->H) (W:World) (base:Nat) (args:Array Value) (ds gs:List (DataW H)) (before:List MemPlace)
  (hval0:∀(j:Nat) t v,f10.params[j]? =some t->args[j]? =some v->Value.okWide prog W .any base t v)
  (hW:DataW.Whole enc prog f10.params.toList Rows.waterfallRawSpec.vars false W args.toList ds gs before):
  Calls prog 10 args W fun e W'=>∃v,e= .returned v/\Rows.waterfallRawSpec.post enc prog f10 false true false false W args v W':=by
 have hval:∀(j:Nat) t v,f10.params[j]? =some t->args[j]? =some v->Value.okWide prog W .any base t v:=hval0;have hW':=hW;obtain ⟨p,q,hA0,hV,rfl,hfz,hnd⟩:=hW;have hA:DataW.TrodAll enc prog W 0 (fun _=>true) true f10.params.toList args.toList ds p:=hA0;rw [Tryz.params10] at hA hval;obtain ⟨v0,vs0,d0,ds0,p0,q0,hargs,rfl,rfl,h0,r0⟩:=trodAll_cons hA;obtain ⟨v1,vs1,d1,ds1,p1,q1,rfl,rfl,rfl,h1,r1⟩:=trodAll_cons r0;obtain ⟨rfl,rfl,rfl⟩:=trodAll_nil r1;obtain rfl:args= #[v0,v1]:=by cases args;simp_all
 obtain ⟨rfl,rfl⟩:=trodVars_none hV;obtain ⟨l0,o0⟩:=l5 underlying36 (hval 0 36 v0 rfl rfl) (xL) h0;obtain ⟨l1,o1⟩:=l5 underlying32 (hval 1 32 v1 rfl rfl) (iT) h1;clear hA0 hval0;refine (DW v0 v1 l0 l1 W o0 o1).mono fun e W' ⟨he,hb⟩=>?_
 subst he;exact ⟨_,rfl,CT laidOut (by kernel_rfl) rfl hW' rfl rfl rfl (by kernel_rfl) underlying4 hb⟩
theorem lifted (os:Os) (started:os.Started) (H:Type) (enc:TypeId×Value->H) (F:Stop.Interp):
  ReturnsInHanded {} Tryz.checked os 10 .any ((OpenSpec.ofChange Rows.waterfallRawSpec).preRow enc prog f10 Rows.waterfallRawRow.domain false Rows.waterfallRawRow.laid) (((OpenSpec.ofChange Rows.waterfallRawSpec).at F).post enc prog f10 false true false false):=by
 obtain ⟨places,hx⟩:=reads os enc;refine returnsInHanded_of_row (C:=Tryz.checked) (s:=OpenSpec.ofChange Rows.waterfallRawSpec) own started (by kernel_rfl) func10
  (witness_row_at (enc:=enc) (C:=Tryz.checked) false (laidWorld os) #[.agg #[.bool false,.string ay,.string ay,.slice none 0 0,.slice none 0 0],.agg #[.bool false,.string ay,.string ay]] rfl (by kernel_rfl) (by kernel_rfl) (by kernel_rfl)
   (OpenSpec.preRow_of_cond 8 hx (by kernel_rfl) (fun k hk=>by cases hk) (by kernel_rfl) (laid_met os))) ?_
 intro W base args ds gs before hval hW _ _ _ _ _ _;exact contract H enc W base args ds gs before hval hW
theorem c1:jf1 Tryz.pinned.checked.prog f10 (OpenSpec.ofChange Rows.waterfallRawSpec).bare Rows.waterfallRawRow=true:=by kernel_rfl
theorem c1b:jf2 Tryz.pinned.checked.prog (OpenSpec.ofChange Rows.waterfallRawSpec).bare Rows.waterfallRawRow=true:=by kernel_rfl
theorem c1c:jf3 Tryz.pinned.checked.prog Rows.waterfallRawRow=true:=by kernel_rfl
theorem c2:(Rows.waterfallRawRow.inPlace==Tryz.pinned.checked.prog.inPlace 10)=true:=by kernel_rfl
theorem c3:(Rows.waterfallRawRow.unfollowed==Tryz.pinned.checked.prog.unfollowed 10)=true:=by kernel_rfl
theorem c4:(Rows.waterfallRawRow.recurses==Tryz.pinned.checked.prog.recurses 10)=true:=by kernel_rfl
theorem c5:(Rows.waterfallRawRow.named==Tryz.pinned.checked.prog.varsNamed 10)=true:=by kernel_rfl
theorem c6:jf6 Tryz.pinned.checked.prog f10 (OpenSpec.ofChange Rows.waterfallRawSpec).bare Rows.waterfallRawRow=true:=by kernel_rfl
theorem c7:(Rows.waterfallRawRow.plainKeys==Tryz.pinned.checked.prog.plainKeys)=true:=by kernel_rfl
theorem c8:jf8 Tryz.pinned.checked.prog Rows.waterfallRawRow=true:=by kernel_rfl
theorem c9:Tryz.pinned.checked.prog.mayEnter=true:=by kernel_rfl
theorem c10:(Rows.waterfallRawRow.lifted==Tryz.pinned.checked.prog.liftsFinal)=true:=by kernel_rfl
theorem c11:Fz Tryz.pinned.checked.prog f10 (OpenSpec.ofChange Rows.waterfallRawSpec).bare Rows.waterfallRawRow=true:=by kernel_rfl
theorem c12:FA Tryz.pinned.checked.prog f10 (OpenSpec.ofChange Rows.waterfallRawSpec).bare Rows.waterfallRawRow=true:=by kernel_rfl
theorem closed:joinedFacts Tryz.pinned.checked.prog 10 f10 (OpenSpec.ofChange Rows.waterfallRawSpec).bare Rows.waterfallRawRow=true:=G8 c1 c1b c1c c2 c3 c4 c5 c6 c7 c8 c9 c10 c11 c12
theorem s1:Tryz.pinned.checked.prog.funcNamed Rows.waterfallRawRow.func=some 10:=by kernel_rfl
theorem s2:f10.isInstance Tryz.pinned.checked.prog Rows.waterfallRawRow.origin Rows.waterfallRawRow.targs:=of_decide_eq_true (by kernel_rfl)
theorem s3:f10.isWrapper Tryz.pinned.checked.prog Rows.waterfallRawRow.wrapper Rows.waterfallRawRow.mainSum:=(by unfold Func.isWrapper;first|(rw [if_pos (by decide+kernel)];kernel_rfl)|(rw [if_neg (by decide+kernel)];exact ⟨rfl,rfl⟩))
theorem s4:false=Rows.waterfallRawRow.goesBy Tryz.pinned.checked.prog:=by kernel_rfl
theorem s5:false=Tryz.pinned.checked.prog.looks []:=by kernel_rfl
theorem s6:Rows.waterfallRawRow.wfByText (OpenSpec.ofChange Rows.waterfallRawSpec)=true:=by kernel_rfl
theorem s7:Tryz.pinned.checked.prog.mainIs=some (Rows.waterfallRawCard.stood.harness.1,Rows.waterfallRawCard.stood.harness.2.toList):=by kernel_rfl
theorem said:Rows.WaterfallRawSaid:=
 OpenClaim.holds_of_cond 10 f10 rfl rfl rfl rfl rfl rfl rfl ⟨rfl,rfl,rfl,rfl,rfl⟩ rfl rfl rfl rfl rfl s1 func10 closed
  s2 s3
  (fun os started H enc _ F=>by rw [OpenClaim.pre_eq_preRow];exact lifted os started H enc F)
theorem plain (f : FuncId) (fn : Func) (hf : Tryz.pinned.checked.prog.funcNamed "insolvency/insolvencylaw17.WaterfallRaw" = some f) (hfn : Tryz.pinned.checked.prog.funcs[f]? = some fn) :
  false=Tryz.pinned.checked.prog.looks []/\∀(j:Nat) t,fn.params[j]? =some t->Tryz.pinned.checked.prog.wantsStandIn t=false:=by
 obtain rfl : f = 10 := Option.some.inj ((show prog.funcNamed "insolvency/insolvencylaw17.WaterfallRaw" = some 10 from s1).symm.trans hf) |>.symm;obtain rfl:fn=f10:=(Option.some.inj (func10.symm.trans hfn)).symm;refine ⟨s5,fun j t ht=>?_⟩;rw [Tryz.params10] at ht;have hm:=Array.mem_of_getElem? ht;have:t=36∨t=32:=by simpa using hm
 rcases this with rfl|rfl
 ·exact (show prog.wantsStandIn 36=false by kernel_rfl)
 exact (show prog.wantsStandIn 32=false by kernel_rfl)
end Go.Proofs.YtokmkopihhnggaaGreatDoor.waterfallRaw
namespace Go.Proofs.YtokmkopihhnggaaGreatDoor
theorem waterfallRaw_holds:Rows.WaterfallRawCardSaid:=
 Claim7.holds_tied_plain_at .later [] _ _ _ _ waterfallRaw.said (fun _ h=>by cases h) waterfallRaw.s6 (fun _ h=>by cases h) waterfallRaw_row_tie rfl ⟨rfl,rfl⟩ waterfallRaw.s7 rfl waterfallRaw.plain waterfallRaw.s4
#print axioms waterfallRaw_holds
end Go.Proofs.YtokmkopihhnggaaGreatDoor
