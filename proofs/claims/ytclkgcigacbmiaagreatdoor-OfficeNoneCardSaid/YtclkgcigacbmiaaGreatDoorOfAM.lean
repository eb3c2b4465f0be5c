/- OfficeNone answers true for every input, and leaves its arguments as they were. The five tables that the row lists are tied to the text by the given tie; the walk leans on one of them, the powers of ten, as it is laid. No further condition. -/
import Derived.Test.YtclkgcigacbmiaaGreatDoorCards
import Derived.Test.YtclkgcigacbmiaaGreatDoorTie
import Derived.Test.YtclkgcigacbmiaaGreatDoorLONM
import Derived.Test.YtclkgcigacbmiaaGreatDoorWf6M
import Derived.OpenShut
import Derived.Lib.LaidTab
import Derived.Stop.LaidErr
import Derived.Deep.DeepHandedRow
set_option linter.unusedVariables false
set_option maxRecDepth 100000
set_option linter.unusedSimpArgs false
/- OfficeNone answers true for every input, and leaves its arguments Cf they were. The five tables that the row lists are tied to the text by the given tie; the walk leans on one of them, the jM of ten, Cf it is laid. No further condition. -/
namespace Go.Proofs.YtclkgcigacbmiaaGreatDoor.officeNone
open Go.RowKit Go.ChangeShapes Go.WideShapes Go.ChangeAt Go.Proofs.YtclkgcigacbmiaaGreatDoor Go.Proofs.Tryz
theorem own:ownKnob prog.godebug=none:=by kernel_rfl
theorem laidOut:laidOutB prog=true:=by kernel_rfl
def lay (cs:Array Value):Obj->Obj
 | .cells _ t frozen=> .cells cs t frozen
 |o=>o
noncomputable def laidWorld (os:Os):World:=
 {World.holding prog os ⟨#[],#[],[]⟩ with heap:=(((((World.holding prog os ⟨#[],#[],[]⟩).heap.modify 1 (lay ((Go.Pinned.utf8FirstZ.map fun n:Nat=>Value.int .u8 (n:Int)).toArray))).modify 2 (lay #[.int .u8 128,.int .u8 191,.int .u8 160,.int .u8 191,.int .u8 128,.int .u8 159,.int .u8 144,.int .u8 191,.int .u8 128,.int .u8 143,.int .u8 0,.int .u8 0,.int .u8 0,.int .u8 0,.int .u8 0,.int .u8 0,.int .u8 0,.int .u8 0,.int .u8 0,.int .u8 0,.int .u8 0,.int .u8 0,.int .u8 0,.int .u8 0,.int .u8 0,.int .u8 0,.int .u8 0,.int .u8 0,.int .u8 0,.int .u8 0,.int .u8 0,.int .u8 0])).modify 3 (lay #[.int .u64 1,.int .u64 10,.int .u64 100,.int .u64 1000,.int .u64 10000,.int .u64 100000,.int .u64 1000000,.int .u64 10000000,.int .u64 100000000,.int .u64 1000000000,.int .u64 10000000000,.int .u64 100000000000,.int .u64 1000000000000,.int .u64 10000000000000,.int .u64 100000000000000,.int .u64 1000000000000000,.int .u64 10000000000000000,.int .u64 100000000000000000,.int .u64 1000000000000000000,.int .u64 10000000000000000000])).modify 4 (lay #[.int .u8 0,.int .u8 1,.int .u8 28,.int .u8 2,.int .u8 29,.int .u8 14,.int .u8 24,.int .u8 3,.int .u8 30,.int .u8 22,.int .u8 20,.int .u8 15,.int .u8 25,.int .u8 17,.int .u8 4,.int .u8 8,.int .u8 31,.int .u8 27,.int .u8 13,.int .u8 23,.int .u8 21,.int .u8 19,.int .u8 16,.int .u8 7,.int .u8 26,.int .u8 12,.int .u8 18,.int .u8 6,.int .u8 11,.int .u8 5,.int .u8 10,.int .u8 9])).modify 5 (lay #[.int .u8 0,.int .u8 1,.int .u8 56,.int .u8 2,.int .u8 57,.int .u8 49,.int .u8 28,.int .u8 3,.int .u8 61,.int .u8 58,.int .u8 42,.int .u8 50,.int .u8 38,.int .u8 29,.int .u8 17,.int .u8 4,.int .u8 62,.int .u8 47,.int .u8 59,.int .u8 36,.int .u8 45,.int .u8 43,.int .u8 51,.int .u8 22,.int .u8 53,.int .u8 39,.int .u8 33,.int .u8 30,.int .u8 24,.int .u8 18,.int .u8 12,.int .u8 5,.int .u8 63,.int .u8 55,.int .u8 48,.int .u8 27,.int .u8 60,.int .u8 41,.int .u8 37,.int .u8 16,.int .u8 46,.int .u8 35,.int .u8 44,.int .u8 21,.int .u8 52,.int .u8 32,.int .u8 23,.int .u8 11,.int .u8 54,.int .u8 26,.int .u8 40,.int .u8 15,.int .u8 34,.int .u8 20,.int .u8 31,.int .u8 10,.int .u8 25,.int .u8 14,.int .u8 19,.int .u8 9,.int .u8 13,.int .u8 8,.int .u8 7,.int .u8 6])}
theorem laid_met (os:Os):laidMet prog Rows.officeNoneRow.laid ((laidWorld os).forCall (fun _ _=>0) ⟨#[],#[.agg #[.int .u16 0,.int .u16 0,.int .u16 0,.int .u16 0,.int .u16 0]],[]⟩).memory:=
 laidMet_of_run' 8 (by kernel_rfl) (by kernel_rfl)
theorem reads (os:Os) {H:Type} (enc:TypeId×Value->H):∃places,DataW.whole enc prog ((laidWorld os).forCall (fun _ _=>0) ⟨#[],#[.agg #[.int .u16 0,.int .u16 0,.int .u16 0,.int .u16 0,.int .u16 0]],[]⟩).memory f3.params.toList Rows.officeNoneSpec.vars false #[.agg #[.int .u16 0,.int .u16 0,.int .u16 0,.int .u16 0,.int .u16 0]].toList 8=some ([.agg [.lit (.int .u16 0),.lit (.int .u16 0),.lit (.int .u16 0),.lit (.int .u16 0),.lit (.int .u16 0)]],[],places):=
 ⟨[],by kernel_rfl⟩
theorem lL {P:Program} {t e:TypeId} {n:Nat} {α:Type} {R:cr α} {H:Type} {enc:TypeId×Value->H} {W:World} {v:Value} {d:DataW H} {p:List MemPlace} {base:Nat} {rc:Reach}
  (ht:P.underlying t=some (.array n e)) (hok:Value.okWide P W rc base t v) (ho:o8 P t R) (h:DataW.Trod enc P W 0 (fun _=>true) true t v d p):∃l,∃cs:Array Value,v= .agg cs/\R W (LT W.heap.size) cs.toList l:=by
 simp only [Value.okWide,ht] at hok;obtain ⟨cs,rfl,_⟩:=hok;obtain ⟨fuel,h⟩:=h;obtain ⟨a,ha⟩:=ho H enc W fuel _ _ h;exact ⟨a,cs,rfl,ha⟩
theorem jM {W:World} (h:laidMet prog Rows.officeNoneRow.laid W):GO W:=
 Lib.tabIs_of_head (g := 3) (t := 502) (e := 228) (n := 20) (rest := [("unicode/utf8.acceptRanges", Rows.laid_unicode_utf8_acceptRanges), ("unicode/utf8.first", Rows.laid_unicode_utf8_first)]) (by kernel_rfl) (by kernel_rfl) (by kernel_rfl) (by kernel_rfl) (by kernel_rfl) (by kernel_rfl) (show laidMet prog (("internal/strconv.uint64pow10", Lib.tabData .u64 Lib.pow10Tab) :: _) W from h.tail.tail)
theorem zf {P:Program} (h:P.funcs.toList.any Func.goes=false) (f:FuncId):P.goes f=false:=by
 have h1:∀g:FuncId,(P.funcs[g]?).any Func.goes=false:=fun g=>by
  cases hg:P.funcs[g]? with
  |none=>rfl
  |some fn=>
   simp only [Option.any_some];have hm:=Array.mem_of_getElem? hg;rw [List.any_eq_false] at h;have:=h fn (by simpa using hm);simpa using this
 have h2:P.funcs.any Func.goes=false:=by rw [←Array.any_toList];exact h
 unfold Program.goes;rw [h2];simp [h1]
theorem contract (H:Type) (enc:TypeId×Value->H) (W:World) (base:Nat) (args:Array Value) (ds gs:List (DataW H)) (before:List MemPlace)
  (hval0:∀(j:Nat) t v,f3.params[j]? =some t->args[j]? =some v->Value.okWide prog W .any base t v)
  (hG:GO W) (hW:DataW.Whole enc prog f3.params.toList Rows.officeNoneSpec.vars false W args.toList ds gs before):
  Calls prog 3 args W fun e W'=>∃v,e= .returned v/\Rows.officeNoneSpec.post enc prog f3 false true false false W args v W':=by
 have hval:∀(j:Nat) t v,f3.params[j]? =some t->args[j]? =some v->Value.okWide prog W .any base t v:=hval0;have hW':=hW;obtain ⟨p,q,hA0,hV,rfl,hfz,hnd⟩:=hW;have hA:DataW.TrodAll enc prog W 0 (fun _=>true) true f3.params.toList args.toList ds p:=hA0;rw [Tryz.params3] at hA hval;obtain ⟨v0,vs0,d0,ds0,p0,q0,hargs,rfl,rfl,h0,r0⟩:=trodAll_cons hA;obtain ⟨rfl,rfl,rfl⟩:=trodAll_nil r0;obtain rfl:args= #[v0]:=by cases args;simp_all
 obtain ⟨rfl,rfl⟩:=trodVars_none hV;obtain ⟨l0,o0⟩:=lL underlying23 (hval 0 23 v0 rfl rfl) (qr) h0;clear hA0 hval0;refine (sU v0 l0 W o0 hG).mono fun e W' ⟨he,hb⟩=>?_
 subst he;exact ⟨_,rfl,sc laidOut (by kernel_rfl) rfl hW' rfl rfl rfl (by kernel_rfl) underlying4 hb⟩
theorem lifted (os:Os) (started:os.Started) (H:Type) (enc:TypeId×Value->H) (F:Stop.Interp):
  ReturnsInHanded {} Tryz.checked os 3 .any ((OpenSpec.ofChange Rows.officeNoneSpec).preRow enc prog f3 Rows.officeNoneRow.domain false Rows.officeNoneRow.laid) (((OpenSpec.ofChange Rows.officeNoneSpec).at F).post enc prog f3 false true false false):=by
 obtain ⟨places,hx⟩:=reads os enc;refine returnsInHanded_of_row (C:=Tryz.checked) (s:=OpenSpec.ofChange Rows.officeNoneSpec) own started (by kernel_rfl) func3
  (witness_row_at (enc:=enc) (C:=Tryz.checked) false (laidWorld os) #[.agg #[.int .u16 0,.int .u16 0,.int .u16 0,.int .u16 0,.int .u16 0]] rfl (by kernel_rfl) (by kernel_rfl) (by kernel_rfl)
   (OpenSpec.preRow_of_cond 8 hx (by kernel_rfl) (fun k hk=>by cases hk) (by kernel_rfl) (laid_met os))) ?_
 intro W base args ds gs before hval hW hx1 hx2 hx3 hx4 hx5 hx6;exact contract H enc W base args ds gs before hval (jM (by first|exact hx1|exact hx2|exact hx3|exact hx4|exact hx5|exact hx6)) hW
end Go.Proofs.YtclkgcigacbmiaaGreatDoor.officeNone
