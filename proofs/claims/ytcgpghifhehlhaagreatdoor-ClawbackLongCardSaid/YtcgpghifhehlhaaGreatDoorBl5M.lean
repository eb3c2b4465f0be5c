/- The builder of groups: law0.Group; walked by the abstract machine. -/
import Derived.Test.YtcgpghifhehlhaaGreatDoorBl3M
import Derived.Test.YtcgpghifhehlhaaGreatDoorAbGM
import Derived.Shelf.Sort.Plain
import Derived.Shelf.Slices.CompactI
import Derived.Shelf.Slices.In.SortNone
import Derived.Test.YtcgpghifhehlhaaGreatDoorProg
import Derived.Sort.OwnSortedInts
import Derived.Lib.RowBridge
set_option linter.unusedVariables false
set_option linter.unusedSimpArgs false
set_option linter.defProp false
namespace Go.Proofs.YtcgpghifhehlhaaGreatDoor
open Go Go.RowKit Go.Proofs.Tryz

def eB (t:List GPart):Bool:=decide (24<t.length)
def pB (ts:List (List GPart)) (k:Nat):Int:=match ts with
 |[]=> -1
 |t::ts=>if eB t then (k:Int) else pB ts (k+1)
theorem xy (ts:List (List GPart)) (k:Nat):decide (0<=pB ts k)=ts.any eB:=by
 induction ts generalizing k with
 |nil=>rfl
 |cons t ts ih=>
  simp only [pB,List.any_cons];by_cases h:eB t=true
  ·simp [h]
  simp only [h];simpa using ih (k+1)
def tI:C:= .lit (.func (.func 117) #[] #[])
def F0:=And.intro zS (tf0)
theorem F1:type_of%F0:=F0
theorem yT (t:List GPart) (h:t.length<=1000000000000):ch prog 117 [.one (.sh 5 t.length (ar aT t))] (one (.bool (eB t))):=by
 unfold eB;cases hl:decide (24<t.length)
 ·have hI:¬(24:Int)<(t.length:Int):=by have:=of_decide_eq_false hl;omega
  refine bF func117 rfl (by decide) (N:=6) rfl (by simp) (R:=[.tmp 2]) rfl fun en k0=>?_
  refine awN ?_;simp only [F1,seval];refine awN ?_;simp only [F1,seval,hI];refine awX ?_;simp only [F1,seval]
 have hI:(24:Int)<(t.length:Int):=by have:=of_decide_eq_true hl;omega
 refine bF func117 rfl (by decide) (N:=6) rfl (by simp) (R:=[.tmp 2]) rfl fun en k0=>?_
 refine awN ?_;simp only [F1,seval];refine awN ?_;simp only [F1,seval,hI];refine awX ?_;simp only [F1,seval]
def F2:=And.intro zS (And.intro tf1 (And.intro tf2 (tf3)))
theorem F3:type_of%F2:=F2
theorem pC (ts:List (List GPart)) (hn:ts.length<=1000000000000) (ht:∀t∈ts,t.length<=1000000000000):
  ch prog 157 [.one (.sh 1 ts.length (ar bo ts)),.one tI] (one (.int .i64 (pB ts 0))):=by
 refine bF func157 rfl (by decide) (N:=19) rfl (by simp) (R:=[.tmp 4]) rfl fun en k0=>?_
 refine awN ?_;simp only [F3,seval];refine awN ?_;simp only [F3,seval];refine aQ [0,1,7,8] [] ?_;simp only [F3,seval];repeat' first|apply awS|apply awB
 refine aB (fun n st=>∃k nx,k<=ts.length/\n=ts.length-k/\pB (ts.drop k) k=pB ts 0/\st=⟨mkT [(0,.val (.one (.sh 1 ts.length (ar bo ts)))),(1,.val (.one tI)),(7,one (.int .i64 ts.length)),(8,one (.int .i64 k))],mkH [],nx,0⟩) ts.length ⟨0,_,by omega,by omega,rfl,rfl⟩ ?_;rintro n st ⟨k,nx,hk,rfl,hL,rfl⟩;by_cases hlt:k<ts.length
 ·have hI:(k:Int)<(ts.length:Int):=by omega
  have hat:=aO eI ts k hlt;rw [List.drop_eq_getElem_cons hlt] at hL;have hm:=ht ts[k] (List.getElem_mem hlt);rw [Nat.mul_one] at hat;generalize ts[k]=t at *
  have hC:=yT t hm;simp only [pB] at hL;cases hlo:eB t
  ·rw [hlo] at hL hC;refine awN ?_;simp only [F3,seval,hI];refine awT ?_;refine awK ?_;simp only [F3,seval];refine awN ?_;simp only [F3,seval];refine awN ?_;simp only [F3,seval,hat,bo,tI];repeat refine ob ?_
   refine ⟨ab eJ t,_,hC,rfl,?_⟩;simp only [aq,F3,seval];refine awF ?_;refine awK ?_;simp only [F3,seval];refine awN ?_;simp only [F3,seval];repeat refine ob ?_
   refine ⟨_,aH [0,1,7,8] [],ts.length-(k+1),by omega,k+1,nx,by omega,rfl,?_,?_⟩
   ·simpa using hL
   simp only [F3,seval];try rfl
  rw [hlo] at hL hC;simp only [if_true] at hL;refine awN ?_;simp only [F3,seval,hI];refine awT ?_;refine awK ?_;simp only [F3,seval];refine awN ?_;simp only [F3,seval];refine awN ?_;simp only [F3,seval,hat,bo,tI];repeat refine ob ?_
  refine ⟨ab eJ t,_,hC,rfl,?_⟩;simp only [aq,F3,seval];refine awT ?_;refine awN ?_;simp only [F3,seval];refine awX ?_;simp only [F3,seval,←hL]
 obtain rfl:k=ts.length:=by omega
 have hI:¬(ts.length:Int)<(ts.length:Int):=by omega
 rw [List.drop_length] at hL;simp only [pB] at hL;refine awN ?_;simp only [F3,seval,hI];refine awF ?_;refine awQ ?_;simp only [F3,seval];refine awN ?_;simp only [F3,seval];refine awX ?_;simp only [F3,seval,←hL]
theorem lJ (ts:List (List GPart)) (hn:ts.length<=1000000000000) (ht:∀t∈ts,t.length<=1000000000000):
  ch prog 116 [.one (.sh 1 ts.length (ar bo ts)),.one tI] (one (.bool (ts.any eB))):=by
 have hI:=pC ts hn ht;rw [←xy ts 0];refine bF func116 rfl (by decide) (N:=9) rfl (by simp) (R:=[.tmp 4]) rfl fun en k0=>?_
 refine awN ?_;simp only [zT,seval];refine awN ?_;simp only [zT,seval,tI];refine ⟨ab cA ts,_,hI,rfl,?_⟩;simp only [aq,zT,seval];refine awX ?_;simp only [zT,seval]
theorem eY {P:Program} {e:En} {k0:Kx} {N:Nat} {st:St} {Q:Exit->St->Prop} {x y:Code} (M:St->Prop) (h:Awp P e k0 N x (iO (fun st'=>∃st2,Wk e k0 N st' st2/\M st2) Q) st) (h2:∀st2,M st2->Awp P e k0 N y Q st2):Awp P e k0 N x (iO (Awp P e k0 N y Q) Q) st:=by
 refine oE h fun ex st' hq=>?_
 cases ex with
 |normal=>
  obtain ⟨st2,h1,h3⟩:=hq;exact be h1 (h2 st2 h3)
 |_=>exact hq
def F4:=And.intro zS (And.intro tf0 (And.intro tf4 (tf5)))
theorem F5:type_of%F4:=F4
theorem yU (m nx0 : Nat) (hm : m ≤ 1000000000000) : dk prog 158 [.one (.lit (.slice none 0 0)), .one (.lit (.int .i64 m))] (fun _ => none) nx0
      (fun res H' nx' => ∃ s, res = .val (.one (.own 33 s 0 5)) ∧ H' = up (fun _ => none) 33 (some ⟨s, 46, 5, 0, []⟩) ∧ nx' = s + 1) := by
  have n1 : ¬ (m : Int) < 0 := by omega
  have n2 : ((0 : Nat) : Int) - ((0 : Nat) : Int) = 0 := by omega
  have n3 : (m : Int) - 0 = m := by omega
  refine fm 8 func158 rfl (by decide) (N := 27) rfl (by simp) (Rl := [.tmp 4]) rfl fun en k0 => ?_
  refine awN ?_
  simp only [F5, seval]
  refine awN ?_
  simp only [F5, seval, n1]
  refine awF ?_
  refine awK ?_
  simp only [F5, seval]
  refine awN ?_
  simp only [F5, seval, n3]
  repeat refine ob ?_
  by_cases h0 : 0 < m
  · have hI : (0 : Int) < (m : Int) := by omega
    refine awN ?_
    simp only [F5, seval, hI]
    refine awT ?_
    refine awN ?_
    simp only [F5, seval]
    repeat refine ob ?_
    refine aQ [0] [33] ?_
    simp only [F5, seval]
    refine awN ?_
    simp only [F5, seval]
    refine awX ?_
    simp only [F5, seval]
    exact ⟨_, rfl, rfl, rfl⟩
  have hI : ¬ (0 : Int) < (m : Int) := by omega
  refine awN ?_
  simp only [F5, seval, hI]
  refine awF ?_
  refine awK ?_
  simp only [F5, seval]
  refine awN ?_
  simp only [F5, seval]
  repeat' first|apply awS|apply awB
  refine aQ [4] [] ?_
  refine rS 4 33 46 5 (by decide) (by rfl) ?_
  refine awX ?_
  simp only [F5, seval]
  exact ⟨_, rfl, rfl, rfl⟩
def F6:=And.intro zS (And.intro tf1 (And.intro tf2 (And.intro tf0 (And.intro tf3 (tf5)))))
theorem F7:type_of%F6:=F6
theorem pD (ts:List (List GPart)) (hn:ts.length<=1000000000000) (ht:ts.flatten.length<=1000000000000):
  ch prog 118 [.one (.sh 1 ts.length (ar bo ts))] (.val (.one (.sh 5 ts.flatten.length (ar aT ts.flatten)))):=by
 refine bF func118 rfl (by decide) (N:=36) rfl (by simp) (R:=[.tmp 2]) rfl fun en k0=>?_
 refine awN ?_;simp only [F7,seval];refine awN ?_;simp only [F7,seval];refine awN ?_;simp only [F7,seval];refine aQ [0,3,9,10,11] [] ?_;simp only [F7,seval];refine eY (M:=fun st=>∃nx,st=⟨mkT [(0,.val (.one (.sh 1 ts.length (ar bo ts)))),(3,one (.int .i64 (ts.flatten.length:Int)))],fun _=>none,nx,0⟩) ?_ ?_
 ·repeat' first|apply awS|apply awB
  refine aB (fun n st=>∃k nx D,k<=ts.length/\n=ts.length-k/\D++(ts.drop k).flatten=ts.flatten/\st=⟨mkT [(0,.val (.one (.sh 1 ts.length (ar bo ts)))),(3,one (.int .i64 (D.length:Int))),(9,.val (.one (.sh 1 ts.length (ar bo ts)))),(10,one (.int .i64 ts.length)),(11,one (.int .i64 k))],mkH [],nx,0⟩) ts.length ⟨0,_,[],by omega,by omega,rfl,rfl⟩ ?_;rintro n st ⟨k,nx,D,hk,rfl,hD,rfl⟩;by_cases hlt:k<ts.length
  ·have hI:(k:Int)<(ts.length:Int):=by omega
   have hat:=aO eI ts k hlt;rw [List.drop_eq_getElem_cons hlt,List.flatten_cons] at hD;rw [Nat.mul_one] at hat;generalize ts[k]=t at *
   have hB:=congrArg List.length hD;simp only [List.length_append] at hB;have hI2:¬(D.length:Int)+(t.length:Int)<0:=by omega
   refine awN ?_;simp only [F7,seval,hI];refine awT ?_;refine awK ?_;simp only [F7,seval];refine awN ?_;simp only [F7,seval,hat,bo];repeat refine ob ?_
   refine awN ?_;simp only [F7,seval];repeat refine ob ?_
   refine awN ?_;simp only [F7,seval,hI2];refine awF ?_;refine awK ?_;simp only [F7,seval];refine awN ?_;simp only [F7,seval];repeat refine ob ?_
   refine ⟨_,aH [0,3,9,10,11] [],ts.length-(k+1),by omega,k+1,nx,D++t,by omega,rfl,?_,?_⟩
   ·rw [List.append_assoc];exact hD
   simp only [F7,seval,List.length_append,Int.natCast_add];try rfl
  obtain rfl:k=ts.length:=by omega
  have hI:¬(ts.length:Int)<(ts.length:Int):=by omega
  rw [List.drop_length,List.flatten_nil,List.append_nil] at hD;refine awN ?_;simp only [F7,seval,hI];refine awF ?_;refine awQ ?_;simp only [F7,seval];refine ⟨_,aH [0,3] [],nx,?_⟩;subst hD;simp only [F7,seval]
 rintro st ⟨nx,rfl⟩;refine awR [24] [0,0,0] ?_;simp only [F7,seval];refine ⟨_,yU ts.flatten.length nx ht,?_⟩;rintro res H nx ⟨s,rfl,rfl,rfl⟩;simp only [F7,seval];refine awN ?_;simp only [F7,seval];refine aQ [6,25,26,27] [33] ?_;simp only [F7,seval];repeat' first|apply awS|apply awB
 refine aB (fun n st=>∃k nx s D,k<=ts.length/\n=ts.length-k/\D++(ts.drop k).flatten=ts.flatten/\st=⟨mkT [(6,.val (.one (.own 33 s D.length 5))),(25,.val (.one (.sh 1 ts.length (ar bo ts)))),(26,one (.int .i64 ts.length)),(27,one (.int .i64 k))],mkH [(33,⟨s,46,5,D.length,ar aT D⟩)],nx,0⟩) ts.length ⟨0,_,s,[],by omega,by omega,rfl,rfl⟩ ?_;rintro n st ⟨k,nx,s,D,hk,rfl,hD,rfl⟩;by_cases hlt:k<ts.length
 ·have hI:(k:Int)<(ts.length:Int):=by omega
  have hat:=aO eI ts k hlt;rw [List.drop_eq_getElem_cons hlt,List.flatten_cons] at hD;rw [Nat.mul_one] at hat;generalize ts[k]=t at *
  have hB:=congrArg List.length hD;simp only [List.length_append] at hB;refine awN ?_;simp only [F7,seval,hI];refine awT ?_;refine awK ?_;simp only [F7,seval];refine awN ?_;simp only [F7,seval,hat,bo];repeat refine ob ?_
  refine awN ?_;simp only [F7,seval];repeat refine ob ?_
  refine awN ?_;simp only [F7,seval];repeat refine ob ?_
  refine ⟨_,aH [6,25,26,27] [33],ts.length-(k+1),by omega,k+1,nx+1,nx,D++t,by omega,rfl,?_,?_⟩
  ·rw [List.append_assoc];exact hD
  simp only [F7,seval,List.length_append,Int.natCast_add,aV];try rfl
 obtain rfl:k=ts.length:=by omega
 have hI:¬(ts.length:Int)<(ts.length:Int):=by omega
 rw [List.drop_length,List.flatten_nil,List.append_nil] at hD;subst hD;refine awN ?_;simp only [F7,seval,hI];refine awF ?_;refine awQ ?_;simp only [F7,seval];refine awN ?_;simp only [F7,seval];refine awX ?_;simp only [F7,seval];exact ab eJ _
end Go.Proofs.YtcgpghifhehlhaaGreatDoor
section
/- Contracts of the kit's shelf, laid at this translation by the kit's own tool: slices.Sort and slices.Compact at []int. -/
namespace Go.Proofs
open Go.Shelf Go.Proofs.Tryz
def Tryz.lays189_ren:Go.Shelf.Ren:=⟨fun|189=>119|125=>160|257=>159|128=>213|129=>214|294=>204|295=>205|296=>206|297=>207|298=>208|299=>209|216=>210|300=>211|301=>212|328=>239|329=>240|330=>241|331=>242|332=>243|215=>149|343=>254|n=>n,fun|28=>73|3=>3|46=>69|0=>0|51=>168|53=>134|4=>4|183=>280|182=>279|131=>285|5=>5|9=>9|218=>315|222=>319|228=>325|229=>326|n=>n,fun|n=>n⟩
theorem Tryz.lays189:Go.Proofs.Lays.n189 prog Tryz.lays189_ren:={
 mixed:=by kernel_rfl
 f125:=func160.trans (congrArg some (by kernel_rfl))
 f128:=func213.trans (congrArg some (by kernel_rfl))
 f129:=func214.trans (congrArg some (by kernel_rfl))
 f189:=func119.trans (congrArg some (by kernel_rfl))
 f215:=func149.trans (congrArg some (by kernel_rfl))
 f216:=func210.trans (congrArg some (by kernel_rfl))
 f257:=func159.trans (congrArg some (by kernel_rfl))
 f294:=func204.trans (congrArg some (by kernel_rfl))
 f295:=func205.trans (congrArg some (by kernel_rfl))
 f296:=func206.trans (congrArg some (by kernel_rfl))
 f297:=func207.trans (congrArg some (by kernel_rfl))
 f298:=func208.trans (congrArg some (by kernel_rfl))
 f299:=func209.trans (congrArg some (by kernel_rfl))
 f300:=func211.trans (congrArg some (by kernel_rfl))
 f301:=func212.trans (congrArg some (by kernel_rfl))
 f328:=func239.trans (congrArg some (by kernel_rfl))
 f329:=func240.trans (congrArg some (by kernel_rfl))
 f330:=func241.trans (congrArg some (by kernel_rfl))
 f331:=func242.trans (congrArg some (by kernel_rfl))
 f332:=func243.trans (congrArg some (by kernel_rfl))
 f343:=func254.trans (congrArg some (by kernel_rfl))
 t0:=underlying0
 a0:=Tryz.isAgg0
 z0:=Tryz.sizeOf0
 v0:=Tryz.zeroValue0
 t3:=underlying3
 a3:=Tryz.isAgg3
 z3:=Tryz.sizeOf3
 v3:=Tryz.zeroValue3
 t4:=underlying4
 a4:=Tryz.isAgg4
 z4:=Tryz.sizeOf4
 v4:=Tryz.zeroValue4
 t5:=underlying5
 a5:=Tryz.isAgg5
 z5:=Tryz.sizeOf5
 v5:=Tryz.zeroValue5
 t9:=underlying9
 a9:=Tryz.isAgg9
 z9:=Tryz.sizeOf9
 v9:=Tryz.zeroValue9
 t28:=underlying73
 a28:=Tryz.isAgg73
 z28:=Tryz.sizeOf73
 v28:=Tryz.zeroValue73
 t46:=underlying69
 a46:=Tryz.isAgg69
 z46:=Tryz.sizeOf69
 v46:=Tryz.zeroValue69
 t51:=underlying168
 a51:=Tryz.isAgg168
 z51:=Tryz.sizeOf168
 v51:=Tryz.zeroValue168
 t53:=underlying134
 a53:=Tryz.isAgg134
 z53:=Tryz.sizeOf134
 v53:=Tryz.zeroValue134
 t131:=underlying285
 a131:=Tryz.isAgg285
 z131:=Tryz.sizeOf285
 v131:=Tryz.zeroValue285
 t182:=underlying279
 a182:=Tryz.isAgg279
 z182:=Tryz.sizeOf279
 v182:=Tryz.zeroValue279
 t183:=underlying280
 a183:=Tryz.isAgg280
 z183:=Tryz.sizeOf280
 v183:=Tryz.zeroValue280
 t218:=underlying315
 a218:=Tryz.isAgg315
 z218:=Tryz.sizeOf315
 v218:=Tryz.zeroValue315
 t222:=underlying319
 a222:=Tryz.isAgg319
 z222:=Tryz.sizeOf319
 v222:=Tryz.zeroValue319
 t228:=underlying325
 a228:=Tryz.isAgg325
 z228:=Tryz.sizeOf325
 v228:=Tryz.zeroValue325
 t229:=underlying326
 a229:=Tryz.isAgg326
 z229:=Tryz.sizeOf326
 v229:=Tryz.zeroValue326}
open Go.Sort Go.RowKit in
theorem Tryz.slices_Sort_int (blk off cap:Nat) (zs:List Int) (w:World) (hH:Holds (Value.int .i64) w blk off zs.toArray) (hblk:blk<w.heap.size) (hsz:zs.length<4611686018427387904):
  Calls prog 119 #[.slice (some ⟨blk,off,none⟩) zs.length cap] w fun e w'=>
   e= .returned (.tuple #[])/\∃n os,w'=grow (putRow (Value.int .i64) (Sort.ahead w n) blk off (zs.mergeSort fun x y=>decide (x<=y)).toArray) os:=Any.slices_Sort_int Tryz.lays189 blk off cap zs w hH hblk hsz
def Tryz.laysNm220_ren:Go.Shelf.Ren:=⟨fun|20=>120|n=>n,fun|22=>73|3=>3|4=>4|0=>0|n=>n,fun|n=>n⟩
theorem Tryz.laysNm220:Go.Proofs.Lays2.n20 prog Tryz.laysNm220_ren:={
 mixed:=by kernel_rfl
 f20:=func120.trans (congrArg some (by kernel_rfl))
 t0:=underlying0
 a0:=Tryz.isAgg0
 z0:=Tryz.sizeOf0
 v0:=Tryz.zeroValue0
 t3:=underlying3
 a3:=Tryz.isAgg3
 z3:=Tryz.sizeOf3
 v3:=Tryz.zeroValue3
 t4:=underlying4
 a4:=Tryz.isAgg4
 z4:=Tryz.sizeOf4
 v4:=Tryz.zeroValue4
 t22:=underlying73
 a22:=Tryz.isAgg73
 z22:=Tryz.sizeOf73
 v22:=Tryz.zeroValue73
 i3:=by kernel_rfl}
open Go.RowKit Go.Lib Go.Sort in
theorem Tryz.slices_Compact_int (blk off cap:Nat) (zs:List Int) (w:World) (hH:Holds (Value.int .i64) w blk off zs.toArray) (hsz:zs.length<=9223372036854775807) (hcap:zs.length<=cap):
  Calls prog 120 #[.slice (some ⟨blk,off,none⟩) zs.length cap] w fun e w'=>e= .returned (.slice (some ⟨blk,off,none⟩) (Lib.compact zs).length cap)/\∃q,w'=putRow (Value.int .i64) (Sort.ahead w q) blk off (Lib.compact zs++List.replicate (zs.length-(Lib.compact zs).length) 0).toArray:=Any.slices_Compact_int Tryz.laysNm220 blk off cap zs w hH hsz hcap
open Go.RowKit Go.Lib Go.Sort in
theorem Tryz.slices_Compact_int_empty (a:Option Addr) (cap:Nat) (w:World):
  Calls prog 120 #[.slice a 0 cap] w fun e w'=>e= .returned (.slice a 0 cap)/\w'=w:=Any.slices_Compact_int_empty Tryz.laysNm220 a cap w
open Go.RowKit Go.Sort in
theorem Tryz.slices_Sort_int_none (p:Option Addr) (cap:Nat) (w:World):
  Calls prog 119 #[.slice p 0 cap] w fun e w'=>e= .returned (.tuple #[])/\w'=w:=Any.slices_Sort_int_none Tryz.lays189 p cap w
end Go.Proofs
end
namespace Go.Proofs.YtcgpghifhehlhaaGreatDoor
open Go Go.RowKit Go.Proofs.Tryz
def Gb (zs:List Int):List Int:=zs.mergeSort fun x y=>decide (x<=y)
theorem dH (zs:List Int):(Gb zs).length=zs.length:=by simp [Gb]
theorem lK {κ:Kx}:∀{xs:List Value} {zs:List Int},denVs κ xs (ar cI zs)->xs=zs.map (Value.int .i64)
 |[],[],_=>rfl
 |x::xs,z::zs,h=>by
  rw [aY] at h;simp only [cI,List.cons_append,List.nil_append,denVs,den] at h;rw [h.1.1,lK h.2,List.map_cons]
 |[],z::zs,h=>by rw [aY] at h;exact h.elim
 |x::xs,[],h=>h.elim
theorem lL {κ:Kx}:∀{zs:List Int},denVs κ (zs.map (Value.int .i64)) (ar cI zs)
 |[]=>trivial
 |z::zs=>by
  rw [aY];simp only [cI,List.cons_append,List.nil_append,denVs,den,List.map_cons];exact ⟨⟨trivial,rfl⟩,lL⟩
theorem yV (H : Hp) (nx nm s : Nat) (E : TypeId) (zs : List Int) (hH : H nm = some ⟨s, E, 1, zs.length, ar cI zs⟩) (hn : zs.length < 4611686018427387904) :
    dk prog 119 [.one (.own nm s zs.length 1)] H nx (fun res H' nx' => res = .tup [] ∧ H' = up H nm (some ⟨s, E, 1, zs.length, ar cI (Gb zs)⟩) ∧ nx' = nx) := by
  refine ⟨⟨_, func119, by decide, by rfl⟩, fun e σ w vs hW hvs => ?_⟩
  match vs, hvs with
  | [v], ⟨hv, _⟩ =>
    simp only [bb, den] at hv
    obtain ⟨f1, f2, f3⟩ := hv.2.2 _ hH rfl
    have hv' : v = σ nm := f1
    subst hv'
    obtain ⟨_, g2, xs, g3, g4⟩ := hW.rowOf hH (.inl (by simp))
    have hxs := lK g4
    subst hxs
    have fin : ∀ w', w.grownBy w' (σ nm).ownBlock → w'.ownsRow e.w0.heap.size E 1 (σ nm) zs.length ((Gb zs).map (Value.int .i64)) →
        ∃ v res H' nx' σ', Ending.returned (.tuple #[]) = .returned v ∧ RW e H' nx' σ' w' ∧ Ext (kx e H nx σ w) (kx e H' nx' σ' w') ∧ aG (kx e H' nx' σ' w') v res ∧ (res = .tup [] ∧ H' = up H nm (some ⟨s, E, 1, zs.length, ar cI (Gb zs)⟩) ∧ nx' = nx) := fun w' h1 h2 => by
      obtain ⟨k1, k2⟩ := hW.upd hH h1 (cs := ar cI (Gb zs)) (by simp) (by simp [aS qP, dH]) h2 lL
      exact ⟨_, .tup [], _, nx, σ, rfl, k1, k2, ⟨[], rfl, trivial⟩, rfl, rfl, rfl⟩
    rcases g3.2 with ⟨q2, q1⟩ | ⟨g, cap, cur, q1, q2, q3, q4, q5, q6, q7⟩
    · have hz : zs = [] := List.eq_nil_of_length_eq_zero q1
      subst hz
      show Calls _ _ #[σ nm] w _
      rw [q2]
      refine (Tryz.slices_Sort_int_none none 0 w).mono ?_
      rintro ex w' ⟨rfl, rfl⟩
      refine fin _ (by rw [q2]; exact ⟨rfl, rfl, rfl, Nat.le_refl _, fun _ _ _ => rfl⟩) ?_
      have hs0 : Gb [] = [] := by simp [Gb]
      rw [q2, hs0]; exact World.ownsRow_nil _ _ _ _
    have q7' : cur.toList.take zs.length = zs.map (Value.int .i64) := by simpa using q7
    show Calls _ _ #[σ nm] w _
    rw [q1]
    refine (Tryz.slices_Sort_int g 0 cap zs w (holds_of_blockI q3 q7') ?_ hn).mono ?_
    · exact (Array.getElem?_eq_some_iff.1 q3).1
    rintro ex w' ⟨rfl, n, os, rfl⟩
    refine fin _ (by rw [q1]; exact grownBy_sortedI _) ?_
    rw [q1]
    exact ownsRow_sortedI (dH zs) q2 q3 q4 q5 q6
theorem tJ (d : Nat) (H : Hp) (nx nm s : Nat) (E : TypeId) (zs : List Int) (hH : H nm = some ⟨s, E, 1, zs.length, ar cI zs⟩) (hn : zs.length < 4611686018427387904) :
    dk prog 120 [.one (.own nm s zs.length 1)] H nx (fun res H' nx' => res = .val (.one (.own d nx (Lib.compact zs).length 1)) ∧ H' = up (up H nm none) d (some ⟨nx, E, 1, (Lib.compact zs).length, ar cI (Lib.compact zs)⟩) ∧ nx' = nx + 1) := by
  refine ⟨⟨_, func120, by decide, by rfl⟩, fun e σ w vs hW hvs => ?_⟩
  match vs, hvs with
  | [v], ⟨hv, _⟩ =>
    simp only [bb, den] at hv
    obtain ⟨f1, f2, f3⟩ := hv.2.2 _ hH rfl
    have hv' : v = σ nm := f1
    subst hv'
    obtain ⟨_, g2, xs, g3, g4⟩ := hW.rowOf hH (.inl (by simp))
    have hxs := lK g4
    subst hxs
    have hle := Lib.compact_length_le zs
    have fin : ∀ w' v' row, w.grownBy w' row → (∀ r, row = some r → obk (σ nm) = some r) → (∀ r, obk v' = some r → obk (σ nm) = some r) → w'.ownsRow e.w0.heap.size E 1 v' (Lib.compact zs).length ((Lib.compact zs).map (Value.int .i64)) →
        ∃ v res H' nx' σ', Ending.returned v' = .returned v ∧ RW e H' nx' σ' w' ∧ Ext (kx e H nx σ w) (kx e H' nx' σ' w') ∧ aG (kx e H' nx' σ' w') v res ∧ (res = .val (.one (.own d nx (Lib.compact zs).length 1)) ∧ H' = up (up H nm none) d (some ⟨nx, E, 1, (Lib.compact zs).length, ar cI (Lib.compact zs)⟩) ∧ nx' = nx + 1) := fun w' v' row h1 h2 h3 h4 => by
      obtain ⟨k1, k2⟩ := hW.new (nm0 := nm) (d := d) (row := row) h1 (B' := ⟨nx, E, 1, (Lib.compact zs).length, ar cI (Lib.compact zs)⟩) (v' := v') rfl (by simp) (by simp [aS qP]) (fun r hr => ⟨h2 r hr, _, hH⟩) (fun r hr => .inr ⟨h3 r hr, _, hH⟩) h4 lL
      have ho : v'.oneCell' = true := by rcases h4.2 with ⟨h, _⟩ | ⟨g, cap, cur, h, _⟩ <;> rw [h] <;> rfl
      exact ⟨_, .val (.one (.own d nx _ 1)), _, _, _, rfl, k1, k2, cb d σ _ ho, rfl, rfl, rfl⟩
    rcases g3.2 with ⟨q2, q1⟩ | ⟨g, cap, cur, q1, q2, q3, q4, q5, q6, q7⟩
    · have hz : zs = [] := List.eq_nil_of_length_eq_zero q1
      subst hz
      show Calls _ _ #[σ nm] w _
      rw [q2]
      refine (Tryz.slices_Compact_int_empty none 0 w).mono ?_
      rintro ex w' ⟨rfl, rfl⟩
      exact fin _ _ none ⟨rfl, rfl, rfl, Nat.le_refl _, fun _ _ _ => rfl⟩ (by simp) (by simp [obk]) (World.ownsRow_nil _ _ _ _)
    have q7' : cur.toList.take zs.length = zs.map (Value.int .i64) := by simpa using q7
    show Calls _ _ #[σ nm] w _
    rw [q1]
    have q4' : zs.length ≤ cap := q4
    refine (Tryz.slices_Compact_int g 0 cap zs w (holds_of_blockI q3 q7') (by omega) q4').mono ?_
    rintro ex w' ⟨rfl, q, rfl⟩
    have hgr := grownBy_sortedI (w := w) (g := g) (n := q) (os := #[]) (Lib.compact zs ++ List.replicate (zs.length - (Lib.compact zs).length) 0).toArray
    have hp := heap_sortedI (w := w) (n := q) (os := #[]) (Lib.compact zs ++ List.replicate (zs.length - (Lib.compact zs).length) 0).toArray q3
    rw [Sort.grow_empty] at hgr hp
    refine fin _ _ (some g) hgr (fun r hr => ?_) (fun r hr => ?_) ⟨by simp, .inr ⟨g, cap, _, rfl, q2, hp, by omega, q5, ?_, ?_⟩⟩
    · obtain rfl := Option.some.inj hr; rw [q1]; rfl
    · rw [q1]; exact hr
    · simp [Sort.putCells]; simpa using q6
    have hcs : zs.length ≤ cur.size := by
      have : cur.size = cap * 1 := q6
      omega
    have hl : (Lib.compact zs ++ List.replicate (zs.length - (Lib.compact zs).length) 0).length = zs.length := by simp; omega
    have := take_putCellsI cur (Lib.compact zs ++ List.replicate (zs.length - (Lib.compact zs).length) 0) (by rw [hl]; exact hcs)
    rw [hl] at this
    rw [Nat.mul_one]
    have h2 : List.take (Lib.compact zs).length (List.take zs.length (Sort.putCells (Value.int .i64) 0 (Lib.compact zs ++ List.replicate (zs.length - (Lib.compact zs).length) 0).toArray cur).toList) = (Lib.compact zs).map (Value.int .i64) := by
      rw [this, List.map_append, List.take_left' (by simp)]
    rwa [List.take_take, Nat.min_eq_left hle] at h2
def dI:List GPart->List Int
 |[]=>[]
 |p::l=>if p.claim= -1 then dI l else p.claim::dI l
def mem (a:cw):List Int:=Lib.compact (Gb (dI a.flatten))
theorem qV (d:Nat) (H:Hp) (nx nm s n:Nat) (E:TypeId) (zs:List Int) (hnz:n=zs.length) (hH:H nm=some ⟨s,E,1,n,ar cI zs⟩) (hn:zs.length<4611686018427387904):
  dk prog 120 [.one (.own nm s n 1)] H nx (fun res H' nx'=>res= .val (.one (.own d nx (Lib.compact zs).length 1))/\H'=up (up H nm none) d (some ⟨nx,E,1,(Lib.compact zs).length,ar cI (Lib.compact zs)⟩)/\nx'=nx+1):=by
 subst hnz;exact tJ d H nx nm s E zs hH hn
def F8:=And.intro zS (And.intro tf6 (And.intro tf0 (And.intro tf7 (And.intro tf8 (And.intro tf9 (And.intro pi (And.intro tu (And.intro xd (And.intro tf5 (Kg))))))))))
theorem F9:type_of%F8:=F8
theorem tK (a:cw) (h1:a.length<=1000000000000) (h2:a.flatten.length<=1000000000000):
  ch prog 75 [.agg (aU a)] (.val (.one (.sh 1 (mem a).length (ar cI (mem a))))):=by
 have hC:=pD a h1 h2;unfold mem;refine bF func75 rfl (by decide) (N:=27) rfl (by simp) (R:=[.tmp 2]) rfl fun en k0=>?_
 refine awN ?_;simp only [F9,seval,aU];refine awN ?_;simp only [F9,seval];refine awN ?_;simp only [F9,seval];refine ⟨ab cA a,_,hC,by simp [av,az,ab eJ],?_⟩;simp only [aq,F9,seval];refine aQ [3,8,9,10] [] ?_;simp only [F9,seval];refine rS 3 21 3 1 (by decide) (by rfl) ?_;refine aQ [3,8,9,10] [21] ?_;simp only [F9,seval];repeat' first|apply awS|apply awB
 refine aB (fun n st=>∃k nx s D,k<=a.flatten.length/\n=a.flatten.length-k/\D.length<=k/\D++dI (a.flatten.drop k)=dI a.flatten/\st=⟨mkT [(3,.val (.one (.own 21 s D.length 1))),(8,.val (.one (.sh 5 a.flatten.length (ar aT a.flatten)))),(9,one (.int .i64 a.flatten.length)),(10,one (.int .i64 k))],mkH [(21,⟨s,3,1,D.length,ar cI D⟩)],nx,0⟩) a.flatten.length ⟨0,_,_,[],by omega,by omega,by simp,rfl,rfl⟩ ?_;rintro n st ⟨k,nx,s,D,hk,rfl,hDl,hD,rfl⟩;generalize a.flatten=l at *
 by_cases hlt:k<l.length
 ·have hI:(k:Int)<(l.length:Int):=by omega
  have hat:=aO gj l k hlt;rw [List.drop_eq_getElem_cons hlt] at hD;generalize l[k]=p at *
  simp only [dI] at hD;by_cases hc:p.claim= -1
  ·repeat' first|apply awS|apply awB
   refine awN ?_;simp only [F9,seval,hI];refine awT ?_;refine awK ?_;simp only [F9,seval];refine awN ?_;simp only [F9,seval,hat,aT];repeat refine ob ?_
   refine awN ?_;simp only [F9,seval,hc];refine awF ?_;refine awK ?_;simp only [F9,seval];refine awN ?_;simp only [F9,seval];repeat refine ob ?_
   refine ⟨_,aH [3,8,9,10] [21],l.length-(k+1),by omega,k+1,nx+1,s,D,by omega,rfl,by omega,?_,?_⟩
   ·rw [if_pos hc] at hD;exact hD
   simp only [F9,seval];try rfl
  repeat' first|apply awS|apply awB
  refine awN ?_;simp only [F9,seval,hI];refine awT ?_;refine awK ?_;simp only [F9,seval];refine awN ?_;simp only [F9,seval,hat,aT];repeat refine ob ?_
  refine awN ?_;simp only [F9,seval,hc];refine awT ?_;refine awN ?_;simp only [F9,seval];repeat refine ob ?_
  refine awN ?_;simp only [F9,seval];repeat refine ob ?_
  refine ⟨_,aH [3,8,9,10] [21],l.length-(k+1),by omega,k+1,nx+3,nx+2,D++[p.claim],by omega,rfl,by simp;omega,?_,?_⟩
  ·rw [if_neg hc] at hD;simpa using hD
  simp only [F9,seval,List.length_append,aV,aY,ej,cI];try rfl
 obtain rfl:k=l.length:=by omega
 have hI:¬(l.length:Int)<(l.length:Int):=by omega
 rw [List.drop_length] at hD;simp only [dI,List.append_nil] at hD;subst hD;refine awN ?_;simp only [F9,seval,hI];refine awF ?_;refine awQ ?_;simp only [F9,seval];refine awR [24] [0,0] ?_;simp only [F9,seval];refine ⟨_,yV _ _ 21 s _ (dI l) (by rfl) (by omega),?_⟩;rintro res H nx ⟨rfl,rfl,rfl⟩;simp only [F9,seval];refine awR [26] [0,0,0] ?_;simp only [F9,seval];refine ⟨_,qV 26 _ _ 21 s _ _ (Gb (dI l)) (dH _).symm (by rfl) (by rw [dH];omega),?_⟩;rintro res H nx ⟨rfl,rfl,rfl⟩;simp only [F9,seval];refine awX ?_;simp only [F9,seval];exact ab rV _
end Go.Proofs.YtcgpghifhehlhaaGreatDoor
