/- OfficeNone: the law's own function; walked by the abstract machine. -/
import Derived.Test.YtclkgcigacbmiaaGreatDoorEv7M
import Derived.Test.YtclkgcigacbmiaaGreatDoorAc1M
import Derived.Test.YtclkgcigacbmiaaGreatDoorAw40M
import Derived.Test.YtclkgcigacbmiaaGreatDoorPl3M
set_option linter.unusedVariables false
set_option maxHeartbeats 4000000
set_option maxRecDepth 100000
set_option linter.unusedSimpArgs false
set_option linter.defProp false
namespace Go.Proofs.YtclkgcigacbmiaaGreatDoor
open Go Go.RowKit Go.Proofs.Tryz
theorem vU (cs:List C) (h:cs.length=28):((cs.drop 14).take 14).length=14:=by
 rw [List.length_take,List.length_drop];omega
def F12:=And.intro zS (And.intro zK (And.intro zL (And.intro zM (And.intro yw (And.intro yy (And.intro tf9 (And.intro zO (And.intro yz (And.intro tP (And.intro zR (And.intro zU (And.intro zV (And.intro yA (And.intro wO (zW)))))))))))))))
theorem F13:type_of%F12:=F12
theorem zb (x0 x1 x2 x3 x4:Nat) (h0:x0<65536) (h1:x1<65536) (h2:x2<65536) (h3:x3<65536) (h4:x4<65536):ACallG GO prog 3 [.agg [.lit (.int .u16 (x0:Int)),.lit (.int .u16 (x1:Int)),.lit (.int .u16 (x2:Int)),.lit (.int .u16 (x3:Int)),.lit (.int .u16 (x4:Int))]] (one (.bool true)):=by
 refine qm func3 rfl (by decide) (N:=62) rfl (by simp) (R:=[.tmp 2]) rfl fun en k0 hG=>?_
 refine awN ?_;simp only [F13,seval];repeat refine ob ?_
 refine awR [13] [0,0,0,0] ?_;simp only [F13,seval];repeat refine ob ?_
 refine ⟨_,xo x0 x1 x2 x3 x4 h0 h1 h2 h3 h4 _ _ _ (fun y B hB=>?_) (by rfl),?_⟩
 ·simp only [aj] at hB;repeat (split at hB;· omega)
  cases hB
 rintro res H' nx' ⟨sA,cs,hcs,rfl,rfl⟩;simp only [F13,seval,(id SD)];repeat refine ob ?_
 refine awN ?_;simp only [F13,seval];repeat refine ob ?_
 refine ⟨_,yP,rfl,?_⟩;try simp only [aZ,F13,seval]
 repeat refine ob ?_
 refine awN ?_;simp only [F13,seval];repeat refine ob ?_
 refine awF ?_;refine awK ?_;simp only [F13,seval];refine awN ?_;simp only [F13,seval];repeat refine ob ?_
 refine awN ?_;simp only [F13,seval];repeat refine ob ?_
 refine fW (up (fun _=>none) 22 (some ⟨nx',43,9,1,[.lit (.pointer none),.lit (.slice none 0 0),.lit (.slice none 0 0),.lit (.slice none 0 0),.lit (.slice none 0 0),.lit (.slice none 0 0),.lit (.int .i64 0),.lit (.bool false),.lit (.slice none 0 0)]⟩)) [3,23,24,25] [4187,23] (by intro y B h;right;by_cases hy:y=22<;>simp_all [aj]) ?_;try simp only [aZ,F13,seval]
 repeat' first|apply awS|apply awB
 refine hJ (fun n st=>∃j Hb nx,j<=2/\n=2-j/\(∀y B,Hb y=some B->y=22)/\(j<2->Hb 22=some ⟨nx',43,9,1,[.lit (.pointer none),.lit (.slice none 0 0),.lit (.slice none 0 0),.lit (.slice none 0 0),.lit (.slice none 0 0),.lit (.slice none 0 0),.lit (.int .i64 0),.lit (.bool false),.lit (.slice none 0 0)]⟩)/\st=⟨mkT [(3,.val (.one (.own 4187 sA 2 14))),(23,.val (.one (.own 23 (nx'+1) 2 1))),(24,one (.int .i64 2)),(25,one (.int .i64 j))],lD Hb [(4187,⟨sA,52,14,2,cs⟩),(23,⟨nx'+1,27,1,2,[.lit (.pointer none),.ptr 22 nx' 0]⟩)],nx,0⟩) (2) ⟨0,up (fun _=>none) 22 (some ⟨nx',43,9,1,[.lit (.pointer none),.lit (.slice none 0 0),.lit (.slice none 0 0),.lit (.slice none 0 0),.lit (.slice none 0 0),.lit (.slice none 0 0),.lit (.int .i64 0),.lit (.bool false),.lit (.slice none 0 0)]⟩),_,by omega,by omega,(fun y B h=>Classical.byContradiction fun hy=>by simp [aj,hy] at h),fun _=>rfl,rfl⟩ ?_;rintro n0 st ⟨j,Hb,nx0,hj,rfl,hHb,hH22,rfl⟩;by_cases hlt0:(j:Int)<2
 ·by_cases hj0:j=0
  ·subst hj0;refine awN ?_;simp only [F13,seval,hlt0];repeat refine ob ?_
   refine awT ?_;refine awK ?_;simp only [F13,seval];refine awN ?_;simp only [F13,seval,hlt0];repeat refine ob ?_
   have hl14:=vU cs hcs;refine awR [37] [0,0,0,0,0,0,0,0,0,0,0,0,0] ?_;simp only [F13,seval,hlt0,hcs];repeat refine ob ?_
   refine ⟨_,yQ _ hl14 _ _ (fun y B hB=>?_),?_⟩
   ·simp only [aj] at hB;repeat (split at hB;· omega)
    first|(have:=hHb y B hB;omega)|(cases hB;done)
   rintro res H' nx2 ⟨rfl,rfl⟩;simp only [F13,seval,(id SD)];repeat refine ob ?_
   refine awR [] [0,0,0,86,86,86,0,0,96,96,96,96,0,0,108,108,108,108,108,0] ?_;simp only [F13,seval,hlt0];repeat refine ob ?_
   refine ⟨_,vN,rfl,?_⟩;try simp only [aZ,F13,seval,hlt0]
   repeat refine ob ?_
   refine ⟨_,yL,rfl,?_⟩;try simp only [aZ,F13,seval,hlt0]
   repeat refine ob ?_
   refine ⟨_,yN,rfl,?_⟩;try simp only [aZ,F13,seval,hlt0]
   repeat refine ob ?_
   refine ⟨_,vP,rfl,?_⟩;try simp only [aZ,F13,seval,hlt0]
   repeat refine ob ?_
   refine awF ?_;refine awK ?_;simp only [F13,seval];refine awN ?_;simp only [F13,seval,hlt0];repeat refine ob ?_
   repeat refine ob ?_
   refine ⟨_,aM Hb [3,23,24,25] [4187,23] (by intro y B h;right;have h9:=hHb y B h;subst h9;simp only [aj];(repeat rw [if_neg (by omega)]);exact h),1,by omega,1,Hb,?na12,by omega,rfl,hHb,fun _=>hH22 (by omega),?st12⟩;case st12=>(simp only [F13,seval];first|rfl|(simp;done))
  obtain rfl:j=1:=by omega
  refine awN ?_;simp only [F13,seval,hlt0];repeat refine ob ?_
  refine awT ?_;refine awK ?_;simp only [F13,seval];refine awN ?_;simp only [F13,seval,hlt0];repeat refine ob ?_
  refine su (t:=8) (nm:=22) (s:=nx') (B:=⟨nx',43,9,1,[.lit (.pointer none),.lit (.slice none 0 0),.lit (.slice none 0 0),.lit (.slice none 0 0),.lit (.slice none 0 0),.lit (.slice none 0 0),.lit (.int .i64 0),.lit (.bool false),.lit (.slice none 0 0)]⟩) (by rfl) (by simpa [aj] using hH22 (by omega)) (show (9:Nat)≠0 by decide) rfl ?_;simp only [F13,seval];have hl14:=vU cs hcs;refine awR [37] [0,0,0,0,0,0,0,0,0,0,0,0,0] ?_;simp only [F13,seval,hlt0,hcs];repeat refine ob ?_
  refine ⟨_,yR _ hl14 _ _ (fun y B hB=>?_),?_⟩
  ·simp only [aj] at hB;repeat (split at hB;· omega)
   first|(have:=hHb y B hB;omega)|(cases hB;done)
  rintro res H' nx2 ⟨rfl,rfl⟩;simp only [F13,seval,(id SD)];repeat refine ob ?_
  refine awR [] [0,0,0,86,86,86,0,0,96,96,96,96,0,0,108,108,108,108,108,0] ?_;simp only [F13,seval,hlt0];repeat refine ob ?_
  refine ⟨_,vO,rfl,?_⟩;try simp only [aZ,F13,seval,hlt0]
  repeat refine ob ?_
  refine ⟨_,yM,rfl,?_⟩;try simp only [aZ,F13,seval,hlt0]
  repeat refine ob ?_
  refine ⟨_,yO,rfl,?_⟩;try simp only [aZ,F13,seval,hlt0]
  repeat refine ob ?_
  refine ⟨_,vP,rfl,?_⟩;try simp only [aZ,F13,seval,hlt0]
  repeat refine ob ?_
  refine awF ?_;refine awK ?_;simp only [F13,seval];refine awN ?_;simp only [F13,seval,hlt0];repeat refine ob ?_
  repeat refine ob ?_
  refine ⟨_,aM (fun _=>none) [3,23,24,25] [4187,23] (fun _ _ h=>nomatch h),0,by omega,2,fun _=>none,?na18,by omega,rfl,(fun _ _ h=>nomatch h),(fun h=>by omega),?st18⟩;case st18=>(simp only [F13,seval];first|rfl|(simp;done))
 refine awN ?_;simp only [F13,seval,hlt0];repeat refine ob ?_
 refine awF ?_;refine awQ ?_;simp only [F13,seval];repeat' first|apply awS|apply awB
 refine qn [] mW (gs:=[none]) (by rfl) (by rfl) (by decide) (by rfl) (by decide) (by rfl) qq hG rfl ?_;simp only [F13,seval];refine awX ?_;(first|(simp only [F13,seval,hlt0];done)|(simp only [F13,seval];first|(simp [hlt0];done)))
structure N5 where
 a:Nat
 b:Nat
 c:Nat
 d:Nat
 e:Nat
def cN5 (x:N5):List C:=[.lit (.int .u16 (x.a:Int)),.lit (.int .u16 (x.b:Int)),.lit (.int .u16 (x.c:Int)),.lit (.int .u16 (x.d:Int)),.lit (.int .u16 (x.e:Int))]
def zd (x:N5):Prop:=x.a<65536/\x.b<65536/\x.c<65536/\x.d<65536/\x.e<65536
theorem Tryz.cellsN5:prog.cellsOf 23=5:=by kernel_rfl
open Go.ChangeShapes Go.WideShapes Go.ChangeAt in
theorem qr:o8 prog 23 (rC cN5 zd):=by
 intro H enc W fuel cs x h;obtain ⟨xs,m,_,_,hl,hxs,hf⟩:=DataW.trod_array underlying23 h;rw [Tryz.cellsN5] at hl;simp only [Tryz.cellsU16] at hf;match cs,hl with
 |[c0,c1,c2,c3,c4],_=>
  have h0:=hf 0 (by decide);rw [List.getElem?_eq_getElem (by omega)] at h0;have h1:=hf 1 (by decide);rw [List.getElem?_eq_getElem (by omega)] at h1;have h2:=hf 2 (by decide);rw [List.getElem?_eq_getElem (by omega)] at h2;have h3:=hf 3 (by decide);rw [List.getElem?_eq_getElem (by omega)] at h3;have h4:=hf 4 (by decide);rw [List.getElem?_eq_getElem (by omega)] at h4;obtain ⟨a0,k0,o0⟩:=du H enc W _ _ _ h0;obtain ⟨a1,k1,o1⟩:=du H enc W _ _ _ h1;obtain ⟨a2,k2,o2⟩:=du H enc W _ _ _ h2;obtain ⟨a3,k3,o3⟩:=du H enc W _ _ _ h3;obtain ⟨a4,k4,o4⟩:=du H enc W _ _ _ h4;replace k0:denVs (fL W) [c0] _:=k0;replace k1:denVs (fL W) [c1] _:=k1;replace k2:denVs (fL W) [c2] _:=k2;replace k3:denVs (fL W) [c3] _:=k3;replace k4:denVs (fL W) [c4] _:=k4;exact ⟨⟨a0,a1,a2,a3,a4⟩,denVs.append k0 (denVs.append k1 (denVs.append k2 (denVs.append k3 k4))),o0,o1,o2,o3,o4⟩
theorem n6 {G:World->Prop} {P:Program} {f:FuncId} {args:List A1} {vs:List Value} {w:World} (h:ACallG G P f args (one (.bool true))) (hG:G w) (hd:aP (fL w) vs args):
  Calls P f vs.toArray w fun e w'=>e= .returned (.bool true)/\Below w.heap.size w w':=
 (h.2 w (LT w.heap.size) vs hG (fun _ h=>h) hd).mono fun e w' ⟨v,he,hb,hv⟩=>by
  have:v= .bool true:=hv.1;subst this;exact ⟨he,hb⟩
theorem sU (v0:Value) (x:N5) (W:World) (o0:∃cs:Array Value,v0= .agg cs/\rC cN5 zd W (LT W.heap.size) cs.toList x) (hG:GO W):
  Calls prog 3 #[v0] W fun e w'=>e= .returned (.bool true)/\Below W.heap.size W w':=by
 obtain ⟨k0,k1,k2,k3,k4,k5⟩:=tY o0;exact n6 (vs:=[v0]) (zb x.a x.b x.c x.d x.e k1 k2 k3 k4 k5) hG ⟨k0,trivial⟩
end Go.Proofs.YtclkgcigacbmiaaGreatDoor
