/- slices.ContainsFunc at tiers, with the closure of waterfall.checkAgreement; walked by the abstract machine. -/
import Derived.Test.YtokmkopihhnggaaGreatDoorAbGM
import Derived.Shelf.Sort.Plain
import Derived.Shelf.Slices.CompactI
import Derived.Shelf.Slices.In.SortNone
import Derived.Test.YtokmkopihhnggaaGreatDoorProg
import Derived.Sort.OwnSortedInts
import Derived.Lib.RowBridge
set_option linter.unusedVariables false
set_option maxHeartbeats 4000000
set_option linter.unusedSimpArgs false
set_option linter.defProp false
namespace Go.Proofs.YtokmkopihhnggaaGreatDoor
open Go Go.RowKit Go.Proofs.Tryz
def eb (t:List GPart):Bool:=decide (24<t.length)
def vj (ts:List (List GPart)) (k:Nat):Int:=match ts with
 |[]=> -1
 |t::ts=>if eb t then (k:Int) else vj ts (k+1)
theorem ED (ts:List (List GPart)) (k:Nat):decide (0<=vj ts k)=ts.any eb:=by
 induction ts generalizing k with
 |nil=>rfl
 |cons t ts ih=>
  simp only [vj,List.any_cons];by_cases h:eb t=true
  ·simp [h]
  simp only [h];simpa using ih (k+1)
def A3:C:= .lit (.func (.func 120) #[] #[])
def F0:=And.intro zS (tf0)
theorem F1:type_of%F0:=F0
theorem Gs (t:List GPart) (h:t.length<=1000000000000):aR prog 120 [.one (.sh 5 t.length (aA bT t))] (one (.bool (eb t))):=by
 unfold eb;cases hl:decide (24<t.length)
 ·have hI:¬(24:Int)<(t.length:Int):=by have:=of_decide_eq_false hl;omega
  refine aP func120 rfl (by decide) (N:=6) rfl (by simp) (R:=[.tmp 2]) rfl fun en k0=>?_
  refine awN ?_;simp only [F1,seval];refine awN ?_;simp only [F1,seval,hI];refine awX ?_;simp only [F1,seval]
 have hI:(24:Int)<(t.length:Int):=by have:=of_decide_eq_true hl;omega
 refine aP func120 rfl (by decide) (N:=6) rfl (by simp) (R:=[.tmp 2]) rfl fun en k0=>?_
 refine awN ?_;simp only [F1,seval];refine awN ?_;simp only [F1,seval,hI];refine awX ?_;simp only [F1,seval]
def F2:=And.intro zS (And.intro tf1 (And.intro tf2 (tf3)))
theorem F3:type_of%F2:=F2
theorem vk (ts:List (List GPart)) (hn:ts.length<=1000000000000) (ht:∀t∈ts,t.length<=1000000000000):
  aR prog 158 [.one (.sh 1 ts.length (aA bD ts)),.one A3] (one (.int .i64 (vj ts 0))):=by
 refine aP func158 rfl (by decide) (N:=19) rfl (by simp) (R:=[.tmp 4]) rfl fun en k0=>?_
 refine awN ?_;simp only [F3,seval];refine awN ?_;simp only [F3,seval];refine aQ [0,1,7,8] [] ?_;simp only [F3,seval];repeat' first|apply awS|apply awB
 refine aM (fun n st=>∃k nx,k<=ts.length/\n=ts.length-k/\vj (ts.drop k) k=vj ts 0/\st=⟨mkT [(0,.val (.one (.sh 1 ts.length (aA bD ts)))),(1,.val (.one A3)),(7,one (.int .i64 ts.length)),(8,one (.int .i64 k))],mkH [],nx,0⟩) ts.length ⟨0,_,by omega,by omega,rfl,rfl⟩ ?_;rintro n st ⟨k,nx,hk,rfl,hL,rfl⟩;by_cases hlt:k<ts.length
 ·have hI:(k:Int)<(ts.length:Int):=by omega
  have hat:=aO eA ts k hlt;rw [List.drop_eq_getElem_cons hlt] at hL;have hm:=ht ts[k] (List.getElem_mem hlt);rw [Nat.mul_one] at hat;generalize ts[k]=t at *
  have hC:=Gs t hm;simp only [vj] at hL;cases hlo:eb t
  ·rw [hlo] at hL hC;refine awN ?_;simp only [F3,seval,hI];refine awT ?_;refine awK ?_;simp only [F3,seval];refine awN ?_;simp only [F3,seval];refine awN ?_;simp only [F3,seval,hat,bD,A3];repeat refine ob ?_
   refine ⟨ab d9 t,_,hC,rfl,?_⟩;simp only [ak,F3,seval];refine awF ?_;refine awK ?_;simp only [F3,seval];refine awN ?_;simp only [F3,seval];repeat refine ob ?_
   refine ⟨_,aI [0,1,7,8] [],ts.length-(k+1),by omega,k+1,nx,by omega,rfl,?_,?_⟩
   ·simpa using hL
   simp only [F3,seval];try rfl
  rw [hlo] at hL hC;simp only [if_true] at hL;refine awN ?_;simp only [F3,seval,hI];refine awT ?_;refine awK ?_;simp only [F3,seval];refine awN ?_;simp only [F3,seval];refine awN ?_;simp only [F3,seval,hat,bD,A3];repeat refine ob ?_
  refine ⟨ab d9 t,_,hC,rfl,?_⟩;simp only [ak,F3,seval];refine awT ?_;refine awN ?_;simp only [F3,seval];refine awX ?_;simp only [F3,seval,←hL]
 obtain rfl:k=ts.length:=by omega
 have hI:¬(ts.length:Int)<(ts.length:Int):=by omega
 rw [List.drop_length] at hL;simp only [vj] at hL;refine awN ?_;simp only [F3,seval,hI];refine awF ?_;refine awQ ?_;simp only [F3,seval];refine awN ?_;simp only [F3,seval];refine awX ?_;simp only [F3,seval,←hL]
theorem pu (ts:List (List GPart)) (hn:ts.length<=1000000000000) (ht:∀t∈ts,t.length<=1000000000000):
  aR prog 119 [.one (.sh 1 ts.length (aA bD ts)),.one A3] (one (.bool (ts.any eb))):=by
 have hI:=vk ts hn ht;rw [←ED ts 0];refine aP func119 rfl (by decide) (N:=9) rfl (by simp) (R:=[.tmp 4]) rfl fun en k0=>?_
 refine awN ?_;simp only [zT,seval];refine awN ?_;simp only [zT,seval,A3];refine ⟨ab bF ts,_,hI,rfl,?_⟩;simp only [ak,zT,seval];refine awX ?_;simp only [zT,seval]
theorem lY {P:Program} {e:En} {k0:Kx} {N:Nat} {st:St} {Q:Exit->St->Prop} {x y:Code} (M:St->Prop) (h:Awp P e k0 N x (jf (fun st'=>∃st2,Wk e k0 N st' st2/\M st2) Q) st) (h2:∀st2,M st2->Awp P e k0 N y Q st2):Awp P e k0 N x (jf (Awp P e k0 N y Q) Q) st:=by
 refine lN h fun ex st' hq=>?_
 cases ex with
 |normal=>
  obtain ⟨st2,h1,h3⟩:=hq;exact cm h1 (h2 st2 h3)
 |_=>exact hq
def F4:=And.intro zS (And.intro tf0 (And.intro tf4 (tf5)))
theorem F5:type_of%F4:=F4
theorem Gt (m nx0 : Nat) (hm : m ≤ 1000000000000) : cT prog 159 [.one (.lit (.slice none 0 0)), .one (.lit (.int .i64 m))] (fun _ => none) nx0
      (fun res H' nx' => ∃ s, res = .val (.one (.own 33 s 0 5)) ∧ H' = up (fun _ => none) 33 (some ⟨s, 46, 5, 0, []⟩) ∧ nx' = s + 1) := by
  have n1 : ¬ (m : Int) < 0 := by omega
  have n2 : ((0 : Nat) : Int) - ((0 : Nat) : Int) = 0 := by omega
  have n3 : (m : Int) - 0 = m := by omega
  refine cF 8 func159 rfl (by decide) (N := 27) rfl (by simp) (Rl := [.tmp 4]) rfl fun en k0 => ?_
  refine awN ?_
  simp only [F5, seval]
  refine awN ?_
  simp only [F5, seval, n1]
  refine awF ?_
  refine awK ?_
  simp only [F5, seval]
  refine awN ?_
  simp only [F5, seval, n3]
  repeat refine ob ?_
  by_cases h0 : 0 < m
  · have hI : (0 : Int) < (m : Int) := by omega
    refine awN ?_
    simp only [F5, seval, hI]
    refine awT ?_
    refine awN ?_
    simp only [F5, seval]
    repeat refine ob ?_
    refine aQ [0] [33] ?_
    simp only [F5, seval]
    refine awN ?_
    simp only [F5, seval]
    refine awX ?_
    simp only [F5, seval]
    exact ⟨_, rfl, rfl, rfl⟩
  have hI : ¬ (0 : Int) < (m : Int) := by omega
  refine awN ?_
  simp only [F5, seval, hI]
  refine awF ?_
  refine awK ?_
  simp only [F5, seval]
  refine awN ?_
  simp only [F5, seval]
  repeat' first|apply awS|apply awB
  refine aQ [4] [] ?_
  refine gS 4 33 46 5 (by decide) (by rfl) ?_
  refine awX ?_
  simp only [F5, seval]
  exact ⟨_, rfl, rfl, rfl⟩
def F6:=And.intro zS (And.intro tf1 (And.intro tf2 (And.intro tf0 (And.intro tf3 (tf5)))))
theorem F7:type_of%F6:=F6
theorem vl (ts:List (List GPart)) (hn:ts.length<=1000000000000) (ht:ts.flatten.length<=1000000000000):
  aR prog 121 [.one (.sh 1 ts.length (aA bD ts))] (.val (.one (.sh 5 ts.flatten.length (aA bT ts.flatten)))):=by
 refine aP func121 rfl (by decide) (N:=36) rfl (by simp) (R:=[.tmp 2]) rfl fun en k0=>?_
 refine awN ?_;simp only [F7,seval];refine awN ?_;simp only [F7,seval];refine awN ?_;simp only [F7,seval];refine aQ [0,3,9,10,11] [] ?_;simp only [F7,seval];refine lY (M:=fun st=>∃nx,st=⟨mkT [(0,.val (.one (.sh 1 ts.length (aA bD ts)))),(3,one (.int .i64 (ts.flatten.length:Int)))],fun _=>none,nx,0⟩) ?_ ?_
 ·repeat' first|apply awS|apply awB
  refine aM (fun n st=>∃k nx D,k<=ts.length/\n=ts.length-k/\D++(ts.drop k).flatten=ts.flatten/\st=⟨mkT [(0,.val (.one (.sh 1 ts.length (aA bD ts)))),(3,one (.int .i64 (D.length:Int))),(9,.val (.one (.sh 1 ts.length (aA bD ts)))),(10,one (.int .i64 ts.length)),(11,one (.int .i64 k))],mkH [],nx,0⟩) ts.length ⟨0,_,[],by omega,by omega,rfl,rfl⟩ ?_;rintro n st ⟨k,nx,D,hk,rfl,hD,rfl⟩;by_cases hlt:k<ts.length
  ·have hI:(k:Int)<(ts.length:Int):=by omega
   have hat:=aO eA ts k hlt;rw [List.drop_eq_getElem_cons hlt,List.flatten_cons] at hD;rw [Nat.mul_one] at hat;generalize ts[k]=t at *
   have hB:=congrArg List.length hD;simp only [List.length_append] at hB;have hI2:¬(D.length:Int)+(t.length:Int)<0:=by omega
   refine awN ?_;simp only [F7,seval,hI];refine awT ?_;refine awK ?_;simp only [F7,seval];refine awN ?_;simp only [F7,seval,hat,bD];repeat refine ob ?_
   refine awN ?_;simp only [F7,seval];repeat refine ob ?_
   refine awN ?_;simp only [F7,seval,hI2];refine awF ?_;refine awK ?_;simp only [F7,seval];refine awN ?_;simp only [F7,seval];repeat refine ob ?_
   refine ⟨_,aI [0,3,9,10,11] [],ts.length-(k+1),by omega,k+1,nx,D++t,by omega,rfl,?_,?_⟩
   ·rw [List.append_assoc];exact hD
   simp only [F7,seval,List.length_append,Int.natCast_add];try rfl
  obtain rfl:k=ts.length:=by omega
  have hI:¬(ts.length:Int)<(ts.length:Int):=by omega
  rw [List.drop_length,List.flatten_nil,List.append_nil] at hD;refine awN ?_;simp only [F7,seval,hI];refine awF ?_;refine awQ ?_;simp only [F7,seval];refine ⟨_,aI [0,3] [],nx,?_⟩;subst hD;simp only [F7,seval]
 rintro st ⟨nx,rfl⟩;refine awR [24] [0,0,0] ?_;simp only [F7,seval];refine ⟨_,Gt ts.flatten.length nx ht,?_⟩;rintro res H nx ⟨s,rfl,rfl,rfl⟩;simp only [F7,seval];refine awN ?_;simp only [F7,seval];refine aQ [6,25,26,27] [33] ?_;simp only [F7,seval];repeat' first|apply awS|apply awB
 refine aM (fun n st=>∃k nx s D,k<=ts.length/\n=ts.length-k/\D++(ts.drop k).flatten=ts.flatten/\st=⟨mkT [(6,.val (.one (.own 33 s D.length 5))),(25,.val (.one (.sh 1 ts.length (aA bD ts)))),(26,one (.int .i64 ts.length)),(27,one (.int .i64 k))],mkH [(33,⟨s,46,5,D.length,aA bT D⟩)],nx,0⟩) ts.length ⟨0,_,s,[],by omega,by omega,rfl,rfl⟩ ?_;rintro n st ⟨k,nx,s,D,hk,rfl,hD,rfl⟩;by_cases hlt:k<ts.length
 ·have hI:(k:Int)<(ts.length:Int):=by omega
  have hat:=aO eA ts k hlt;rw [List.drop_eq_getElem_cons hlt,List.flatten_cons] at hD;rw [Nat.mul_one] at hat;generalize ts[k]=t at *
  have hB:=congrArg List.length hD;simp only [List.length_append] at hB;refine awN ?_;simp only [F7,seval,hI];refine awT ?_;refine awK ?_;simp only [F7,seval];refine awN ?_;simp only [F7,seval,hat,bD];repeat refine ob ?_
  refine awN ?_;simp only [F7,seval];repeat refine ob ?_
  refine awN ?_;simp only [F7,seval];repeat refine ob ?_
  refine ⟨_,aI [6,25,26,27] [33],ts.length-(k+1),by omega,k+1,nx+1,nx,D++t,by omega,rfl,?_,?_⟩
  ·rw [List.append_assoc];exact hD
  simp only [F7,seval,List.length_append,Int.natCast_add,fQ];try rfl
 obtain rfl:k=ts.length:=by omega
 have hI:¬(ts.length:Int)<(ts.length:Int):=by omega
 rw [List.drop_length,List.flatten_nil,List.append_nil] at hD;subst hD;refine awN ?_;simp only [F7,seval,hI];refine awF ?_;refine awQ ?_;simp only [F7,seval];refine awN ?_;simp only [F7,seval];refine awX ?_;simp only [F7,seval];exact ab d9 _
end Go.Proofs.YtokmkopihhnggaaGreatDoor
section
/- Contracts of the kit's shelf, laid at this translation by the kit's own tool: slices.Sort and slices.Compact at []int. -/
namespace Go.Proofs
open Go.Shelf Go.Proofs.Tryz
def Tryz.lays189_ren:Go.Shelf.Ren:=⟨fun|189=>122|125=>161|257=>160|128=>203|129=>204|294=>194|295=>195|296=>196|297=>197|298=>198|299=>199|216=>200|300=>201|301=>202|328=>225|329=>226|330=>227|331=>228|332=>229|215=>230|343=>236|n=>n,fun|28=>58|3=>3|46=>115|0=>0|51=>206|53=>165|4=>4|183=>256|182=>255|131=>261|5=>5|9=>9|218=>284|222=>288|228=>297|229=>298|n=>n,fun|n=>n⟩
theorem Tryz.lays189:Go.Proofs.Lays.n189 prog Tryz.lays189_ren:={
 mixed:=by kernel_rfl
 f125:=func161.trans (congrArg some (by kernel_rfl))
 f128:=func203.trans (congrArg some (by kernel_rfl))
 f129:=func204.trans (congrArg some (by kernel_rfl))
 f189:=func122.trans (congrArg some (by kernel_rfl))
 f215:=func230.trans (congrArg some (by kernel_rfl))
 f216:=func200.trans (congrArg some (by kernel_rfl))
 f257:=func160.trans (congrArg some (by kernel_rfl))
 f294:=func194.trans (congrArg some (by kernel_rfl))
 f295:=func195.trans (congrArg some (by kernel_rfl))
 f296:=func196.trans (congrArg some (by kernel_rfl))
 f297:=func197.trans (congrArg some (by kernel_rfl))
 f298:=func198.trans (congrArg some (by kernel_rfl))
 f299:=func199.trans (congrArg some (by kernel_rfl))
 f300:=func201.trans (congrArg some (by kernel_rfl))
 f301:=func202.trans (congrArg some (by kernel_rfl))
 f328:=func225.trans (congrArg some (by kernel_rfl))
 f329:=func226.trans (congrArg some (by kernel_rfl))
 f330:=func227.trans (congrArg some (by kernel_rfl))
 f331:=func228.trans (congrArg some (by kernel_rfl))
 f332:=func229.trans (congrArg some (by kernel_rfl))
 f343:=func236.trans (congrArg some (by kernel_rfl))
 t0:=underlying0
 a0:=Tryz.isAgg0
 z0:=Tryz.sizeOf0
 v0:=Tryz.zeroValue0
 t3:=underlying3
 a3:=Tryz.isAgg3
 z3:=Tryz.sizeOf3
 v3:=Tryz.zeroValue3
 t4:=underlying4
 a4:=Tryz.isAgg4
 z4:=Tryz.sizeOf4
 v4:=Tryz.zeroValue4
 t5:=underlying5
 a5:=Tryz.isAgg5
 z5:=Tryz.sizeOf5
 v5:=Tryz.zeroValue5
 t9:=underlying9
 a9:=Tryz.isAgg9
 z9:=Tryz.sizeOf9
 v9:=Tryz.zeroValue9
 t28:=underlying58
 a28:=Tryz.isAgg58
 z28:=Tryz.sizeOf58
 v28:=Tryz.zeroValue58
 t46:=underlying115
 a46:=Tryz.isAgg115
 z46:=Tryz.sizeOf115
 v46:=Tryz.zeroValue115
 t51:=underlying206
 a51:=Tryz.isAgg206
 z51:=Tryz.sizeOf206
 v51:=Tryz.zeroValue206
 t53:=underlying165
 a53:=Tryz.isAgg165
 z53:=Tryz.sizeOf165
 v53:=Tryz.zeroValue165
 t131:=underlying261
 a131:=Tryz.isAgg261
 z131:=Tryz.sizeOf261
 v131:=Tryz.zeroValue261
 t182:=underlying255
 a182:=Tryz.isAgg255
 z182:=Tryz.sizeOf255
 v182:=Tryz.zeroValue255
 t183:=underlying256
 a183:=Tryz.isAgg256
 z183:=Tryz.sizeOf256
 v183:=Tryz.zeroValue256
 t218:=underlying284
 a218:=Tryz.isAgg284
 z218:=Tryz.sizeOf284
 v218:=Tryz.zeroValue284
 t222:=underlying288
 a222:=Tryz.isAgg288
 z222:=Tryz.sizeOf288
 v222:=Tryz.zeroValue288
 t228:=underlying297
 a228:=Tryz.isAgg297
 z228:=Tryz.sizeOf297
 v228:=Tryz.zeroValue297
 t229:=underlying298
 a229:=Tryz.isAgg298
 z229:=Tryz.sizeOf298
 v229:=Tryz.zeroValue298}
open Go.Sort Go.RowKit in
theorem Tryz.slices_Sort_int (blk off cap:Nat) (zs:List Int) (w:World) (hH:Holds (Value.int .i64) w blk off zs.toArray) (hblk:blk<w.heap.size) (hsz:zs.length<4611686018427387904):
  Calls prog 122 #[.slice (some ⟨blk,off,none⟩) zs.length cap] w fun e w'=>
   e= .returned (.tuple #[])/\∃n os,w'=grow (putRow (Value.int .i64) (Sort.ahead w n) blk off (zs.mergeSort fun x y=>decide (x<=y)).toArray) os:=Any.slices_Sort_int Tryz.lays189 blk off cap zs w hH hblk hsz
def Tryz.laysNm220_ren:Go.Shelf.Ren:=⟨fun|20=>123|n=>n,fun|22=>58|3=>3|4=>4|0=>0|n=>n,fun|n=>n⟩
theorem Tryz.laysNm220:Go.Proofs.Lays2.n20 prog Tryz.laysNm220_ren:={
 mixed:=by kernel_rfl
 f20:=func123.trans (congrArg some (by kernel_rfl))
 t0:=underlying0
 a0:=Tryz.isAgg0
 z0:=Tryz.sizeOf0
 v0:=Tryz.zeroValue0
 t3:=underlying3
 a3:=Tryz.isAgg3
 z3:=Tryz.sizeOf3
 v3:=Tryz.zeroValue3
 t4:=underlying4
 a4:=Tryz.isAgg4
 z4:=Tryz.sizeOf4
 v4:=Tryz.zeroValue4
 t22:=underlying58
 a22:=Tryz.isAgg58
 z22:=Tryz.sizeOf58
 v22:=Tryz.zeroValue58
 i3:=by kernel_rfl}
open Go.RowKit Go.Lib Go.Sort in
theorem Tryz.slices_Compact_int (blk off cap:Nat) (zs:List Int) (w:World) (hH:Holds (Value.int .i64) w blk off zs.toArray) (hsz:zs.length<=9223372036854775807) (hcap:zs.length<=cap):
  Calls prog 123 #[.slice (some ⟨blk,off,none⟩) zs.length cap] w fun e w'=>e= .returned (.slice (some ⟨blk,off,none⟩) (Lib.compact zs).length cap)/\∃q,w'=putRow (Value.int .i64) (Sort.ahead w q) blk off (Lib.compact zs++List.replicate (zs.length-(Lib.compact zs).length) 0).toArray:=Any.slices_Compact_int Tryz.laysNm220 blk off cap zs w hH hsz hcap
open Go.RowKit Go.Lib Go.Sort in
theorem Tryz.slices_Compact_int_empty (a:Option Addr) (cap:Nat) (w:World):
  Calls prog 123 #[.slice a 0 cap] w fun e w'=>e= .returned (.slice a 0 cap)/\w'=w:=Any.slices_Compact_int_empty Tryz.laysNm220 a cap w
open Go.RowKit Go.Sort in
theorem Tryz.slices_Sort_int_none (p:Option Addr) (cap:Nat) (w:World):
  Calls prog 122 #[.slice p 0 cap] w fun e w'=>e= .returned (.tuple #[])/\w'=w:=Any.slices_Sort_int_none Tryz.lays189 p cap w
end Go.Proofs
end
namespace Go.Proofs.YtokmkopihhnggaaGreatDoor
open Go Go.RowKit Go.Proofs.Tryz
def cN (zs:List Int):List Int:=zs.mergeSort fun x y=>decide (x<=y)
theorem eH (zs:List Int):(cN zs).length=zs.length:=by simp [cN]
theorem pv {κ:Kx}:∀{xs:List Value} {zs:List Int},denVs κ xs (aA cI zs)->xs=zs.map (Value.int .i64)
 |[],[],_=>rfl
 |x::xs,z::zs,h=>by
  rw [cf] at h;simp only [cI,List.cons_append,List.nil_append,denVs,den] at h;rw [h.1.1,pv h.2,List.map_cons]
 |[],z::zs,h=>by rw [cf] at h;exact h.elim
 |x::xs,[],h=>h.elim
theorem pw {κ:Kx}:∀{zs:List Int},denVs κ (zs.map (Value.int .i64)) (aA cI zs)
 |[]=>trivial
 |z::zs=>by
  rw [cf];simp only [cI,List.cons_append,List.nil_append,denVs,den,List.map_cons];exact ⟨⟨trivial,rfl⟩,pw⟩
theorem Gu (H : Hp) (nx nm s : Nat) (E : TypeId) (zs : List Int) (hH : H nm = some ⟨s, E, 1, zs.length, aA cI zs⟩) (hn : zs.length < 4611686018427387904) :
    cT prog 122 [.one (.own nm s zs.length 1)] H nx (fun res H' nx' => res = .tup [] ∧ H' = up H nm (some ⟨s, E, 1, zs.length, aA cI (cN zs)⟩) ∧ nx' = nx) := by
  refine ⟨⟨_, func122, by decide, by rfl⟩, fun e σ w vs hW hvs => ?_⟩
  match vs, hvs with
  | [v], ⟨hv, _⟩ =>
    simp only [bl, den] at hv
    obtain ⟨f1, f2, f3⟩ := hv.2.2 _ hH rfl
    have hv' : v = σ nm := f1
    subst hv'
    obtain ⟨_, g2, xs, g3, g4⟩ := hW.rowOf hH (.inl (by simp))
    have hxs := pv g4
    subst hxs
    have fin : ∀ w', w.grownBy w' (σ nm).ownBlock → w'.ownsRow e.w0.heap.size E 1 (σ nm) zs.length ((cN zs).map (Value.int .i64)) →
        ∃ v res H' nx' σ', Ending.returned (.tuple #[]) = .returned v ∧ RW e H' nx' σ' w' ∧ Ext (kx e H nx σ w) (kx e H' nx' σ' w') ∧ aY (kx e H' nx' σ' w') v res ∧ (res = .tup [] ∧ H' = up H nm (some ⟨s, E, 1, zs.length, aA cI (cN zs)⟩) ∧ nx' = nx) := fun w' h1 h2 => by
      obtain ⟨k1, k2⟩ := hW.upd hH h1 (cs := aA cI (cN zs)) (by simp) (by simp [bo mO, eH]) h2 pw
      exact ⟨_, .tup [], _, nx, σ, rfl, k1, k2, ⟨[], rfl, trivial⟩, rfl, rfl, rfl⟩
    rcases g3.2 with ⟨q2, q1⟩ | ⟨g, cap, cur, q1, q2, q3, q4, q5, q6, q7⟩
    · have hz : zs = [] := List.eq_nil_of_length_eq_zero q1
      subst hz
      show Calls _ _ #[σ nm] w _
      rw [q2]
      refine (Tryz.slices_Sort_int_none none 0 w).mono ?_
      rintro ex w' ⟨rfl, rfl⟩
      refine fin _ (by rw [q2]; exact ⟨rfl, rfl, rfl, Nat.le_refl _, fun _ _ _ => rfl⟩) ?_
      have hs0 : cN [] = [] := by simp [cN]
      rw [q2, hs0]; exact World.ownsRow_nil _ _ _ _
    have q7' : cur.toList.take zs.length = zs.map (Value.int .i64) := by simpa using q7
    show Calls _ _ #[σ nm] w _
    rw [q1]
    refine (Tryz.slices_Sort_int g 0 cap zs w (holds_of_blockI q3 q7') ?_ hn).mono ?_
    · exact (Array.getElem?_eq_some_iff.1 q3).1
    rintro ex w' ⟨rfl, n, os, rfl⟩
    refine fin _ (by rw [q1]; exact grownBy_sortedI _) ?_
    rw [q1]
    exact ownsRow_sortedI (eH zs) q2 q3 q4 q5 q6
theorem A4 (d : Nat) (H : Hp) (nx nm s : Nat) (E : TypeId) (zs : List Int) (hH : H nm = some ⟨s, E, 1, zs.length, aA cI zs⟩) (hn : zs.length < 4611686018427387904) :
    cT prog 123 [.one (.own nm s zs.length 1)] H nx (fun res H' nx' => res = .val (.one (.own d nx (Lib.compact zs).length 1)) ∧ H' = up (up H nm none) d (some ⟨nx, E, 1, (Lib.compact zs).length, aA cI (Lib.compact zs)⟩) ∧ nx' = nx + 1) := by
  refine ⟨⟨_, func123, by decide, by rfl⟩, fun e σ w vs hW hvs => ?_⟩
  match vs, hvs with
  | [v], ⟨hv, _⟩ =>
    simp only [bl, den] at hv
    obtain ⟨f1, f2, f3⟩ := hv.2.2 _ hH rfl
    have hv' : v = σ nm := f1
    subst hv'
    obtain ⟨_, g2, xs, g3, g4⟩ := hW.rowOf hH (.inl (by simp))
    have hxs := pv g4
    subst hxs
    have hle := Lib.compact_length_le zs
    have fin : ∀ w' v' row, w.grownBy w' row → (∀ r, row = some r → obk (σ nm) = some r) → (∀ r, obk v' = some r → obk (σ nm) = some r) → w'.ownsRow e.w0.heap.size E 1 v' (Lib.compact zs).length ((Lib.compact zs).map (Value.int .i64)) →
        ∃ v res H' nx' σ', Ending.returned v' = .returned v ∧ RW e H' nx' σ' w' ∧ Ext (kx e H nx σ w) (kx e H' nx' σ' w') ∧ aY (kx e H' nx' σ' w') v res ∧ (res = .val (.one (.own d nx (Lib.compact zs).length 1)) ∧ H' = up (up H nm none) d (some ⟨nx, E, 1, (Lib.compact zs).length, aA cI (Lib.compact zs)⟩) ∧ nx' = nx + 1) := fun w' v' row h1 h2 h3 h4 => by
      obtain ⟨k1, k2⟩ := hW.new (nm0 := nm) (d := d) (row := row) h1 (B' := ⟨nx, E, 1, (Lib.compact zs).length, aA cI (Lib.compact zs)⟩) (v' := v') rfl (by simp) (by simp [bo mO]) (fun r hr => ⟨h2 r hr, _, hH⟩) (fun r hr => .inr ⟨h3 r hr, _, hH⟩) h4 pw
      have ho : v'.oneCell' = true := by rcases h4.2 with ⟨h, _⟩ | ⟨g, cap, cur, h, _⟩ <;> rw [h] <;> rfl
      exact ⟨_, .val (.one (.own d nx _ 1)), _, _, _, rfl, k1, k2, cc d σ _ ho, rfl, rfl, rfl⟩
    rcases g3.2 with ⟨q2, q1⟩ | ⟨g, cap, cur, q1, q2, q3, q4, q5, q6, q7⟩
    · have hz : zs = [] := List.eq_nil_of_length_eq_zero q1
      subst hz
      show Calls _ _ #[σ nm] w _
      rw [q2]
      refine (Tryz.slices_Compact_int_empty none 0 w).mono ?_
      rintro ex w' ⟨rfl, rfl⟩
      exact fin _ _ none ⟨rfl, rfl, rfl, Nat.le_refl _, fun _ _ _ => rfl⟩ (by simp) (by simp [obk]) (World.ownsRow_nil _ _ _ _)
    have q7' : cur.toList.take zs.length = zs.map (Value.int .i64) := by simpa using q7
    show Calls _ _ #[σ nm] w _
    rw [q1]
    have q4' : zs.length ≤ cap := q4
    refine (Tryz.slices_Compact_int g 0 cap zs w (holds_of_blockI q3 q7') (by omega) q4').mono ?_
    rintro ex w' ⟨rfl, q, rfl⟩
    have hgr := grownBy_sortedI (w := w) (g := g) (n := q) (os := #[]) (Lib.compact zs ++ List.replicate (zs.length - (Lib.compact zs).length) 0).toArray
    have hp := heap_sortedI (w := w) (n := q) (os := #[]) (Lib.compact zs ++ List.replicate (zs.length - (Lib.compact zs).length) 0).toArray q3
    rw [Sort.grow_empty] at hgr hp
    refine fin _ _ (some g) hgr (fun r hr => ?_) (fun r hr => ?_) ⟨by simp, .inr ⟨g, cap, _, rfl, q2, hp, by omega, q5, ?_, ?_⟩⟩
    · obtain rfl := Option.some.inj hr; rw [q1]; rfl
    · rw [q1]; exact hr
    · simp [Sort.putCells]; simpa using q6
    have hcs : zs.length ≤ cur.size := by
      have : cur.size = cap * 1 := q6
      omega
    have hl : (Lib.compact zs ++ List.replicate (zs.length - (Lib.compact zs).length) 0).length = zs.length := by simp; omega
    have := take_putCellsI cur (Lib.compact zs ++ List.replicate (zs.length - (Lib.compact zs).length) 0) (by rw [hl]; exact hcs)
    rw [hl] at this
    rw [Nat.mul_one]
    have h2 : List.take (Lib.compact zs).length (List.take zs.length (Sort.putCells (Value.int .i64) 0 (Lib.compact zs ++ List.replicate (zs.length - (Lib.compact zs).length) 0).toArray cur).toList) = (Lib.compact zs).map (Value.int .i64) := by
      rw [this, List.map_append, List.take_left' (by simp)]
    rwa [List.take_take, Nat.min_eq_left hle] at h2
def dF:List GPart->List Int
 |[]=>[]
 |p::l=>if p.claim= -1 then dF l else p.claim::dF l
def mem (a:bR):List Int:=Lib.compact (cN (dF a.flatten))
theorem xH (d:Nat) (H:Hp) (nx nm s n:Nat) (E:TypeId) (zs:List Int) (hnz:n=zs.length) (hH:H nm=some ⟨s,E,1,n,aA cI zs⟩) (hn:zs.length<4611686018427387904):
  cT prog 123 [.one (.own nm s n 1)] H nx (fun res H' nx'=>res= .val (.one (.own d nx (Lib.compact zs).length 1))/\H'=up (up H nm none) d (some ⟨nx,E,1,(Lib.compact zs).length,aA cI (Lib.compact zs)⟩)/\nx'=nx+1):=by
 subst hnz;exact A4 d H nx nm s E zs hH hn
def F8:=And.intro zS (And.intro tf6 (And.intro tf0 (And.intro tf7 (And.intro tf8 (And.intro tf9 (And.intro xE (And.intro AU (And.intro jz (And.intro tf5 (IX))))))))))
theorem F9:type_of%F8:=F8
theorem rN (a:bR) (h1:a.length<=1000000000000) (h2:a.flatten.length<=1000000000000):
  aR prog 76 [.agg (bu a)] (.val (.one (.sh 1 (mem a).length (aA cI (mem a))))):=by
 have hC:=vl a h1 h2;unfold mem;refine aP func76 rfl (by decide) (N:=27) rfl (by simp) (R:=[.tmp 2]) rfl fun en k0=>?_
 refine awN ?_;simp only [F9,seval,bu];refine awN ?_;simp only [F9,seval];refine awN ?_;simp only [F9,seval];refine ⟨ab bF a,_,hC,by simp [al,ax,ab d9],?_⟩;simp only [ak,F9,seval];refine aQ [3,8,9,10] [] ?_;simp only [F9,seval];refine gS 3 21 3 1 (by decide) (by rfl) ?_;refine aQ [3,8,9,10] [21] ?_;simp only [F9,seval];repeat' first|apply awS|apply awB
 refine aM (fun n st=>∃k nx s D,k<=a.flatten.length/\n=a.flatten.length-k/\D.length<=k/\D++dF (a.flatten.drop k)=dF a.flatten/\st=⟨mkT [(3,.val (.one (.own 21 s D.length 1))),(8,.val (.one (.sh 5 a.flatten.length (aA bT a.flatten)))),(9,one (.int .i64 a.flatten.length)),(10,one (.int .i64 k))],mkH [(21,⟨s,3,1,D.length,aA cI D⟩)],nx,0⟩) a.flatten.length ⟨0,_,_,[],by omega,by omega,by simp,rfl,rfl⟩ ?_;rintro n st ⟨k,nx,s,D,hk,rfl,hDl,hD,rfl⟩;generalize a.flatten=l at *
 by_cases hlt:k<l.length
 ·have hI:(k:Int)<(l.length:Int):=by omega
  have hat:=aO eX l k hlt;rw [List.drop_eq_getElem_cons hlt] at hD;generalize l[k]=p at *
  simp only [dF] at hD;by_cases hc:p.claim= -1
  ·repeat' first|apply awS|apply awB
   refine awN ?_;simp only [F9,seval,hI];refine awT ?_;refine awK ?_;simp only [F9,seval];refine awN ?_;simp only [F9,seval,hat,bT];repeat refine ob ?_
   refine awN ?_;simp only [F9,seval,hc];refine awF ?_;refine awK ?_;simp only [F9,seval];refine awN ?_;simp only [F9,seval];repeat refine ob ?_
   refine ⟨_,aI [3,8,9,10] [21],l.length-(k+1),by omega,k+1,nx+1,s,D,by omega,rfl,by omega,?_,?_⟩
   ·rw [if_pos hc] at hD;exact hD
   simp only [F9,seval];try rfl
  repeat' first|apply awS|apply awB
  refine awN ?_;simp only [F9,seval,hI];refine awT ?_;refine awK ?_;simp only [F9,seval];refine awN ?_;simp only [F9,seval,hat,bT];repeat refine ob ?_
  refine awN ?_;simp only [F9,seval,hc];refine awT ?_;refine awN ?_;simp only [F9,seval];repeat refine ob ?_
  refine awN ?_;simp only [F9,seval];repeat refine ob ?_
  refine ⟨_,aI [3,8,9,10] [21],l.length-(k+1),by omega,k+1,nx+3,nx+2,D++[p.claim],by omega,rfl,by simp;omega,?_,?_⟩
  ·rw [if_neg hc] at hD;simpa using hD
  simp only [F9,seval,List.length_append,fQ,cf,ve,cI];try rfl
 obtain rfl:k=l.length:=by omega
 have hI:¬(l.length:Int)<(l.length:Int):=by omega
 rw [List.drop_length] at hD;simp only [dF,List.append_nil] at hD;subst hD;refine awN ?_;simp only [F9,seval,hI];refine awF ?_;refine awQ ?_;simp only [F9,seval];refine awR [24] [0,0] ?_;simp only [F9,seval];refine ⟨_,Gu _ _ 21 s _ (dF l) (by rfl) (by omega),?_⟩;rintro res H nx ⟨rfl,rfl,rfl⟩;simp only [F9,seval];refine awR [26] [0,0,0] ?_;simp only [F9,seval];refine ⟨_,xH 26 _ _ 21 s _ _ (cN (dF l)) (eH _).symm (by rfl) (by rw [eH];omega),?_⟩;rintro res H nx ⟨rfl,rfl,rfl⟩;simp only [F9,seval];refine awX ?_;simp only [F9,seval];exact ab bg _
instance:Inhabited GClaim:=⟨⟨0,0,⟨false,ay,ay⟩⟩⟩
theorem CR {α:Type} {f:α->List C} {sz:Nat} (hf:∀a,(f a).length=sz) (l:List α) (i:Int) (d:α) (h0:0<=i) (h:i<l.length):(aA f l).drop (i.toNat*sz)=f (l.getD i.toNat d)++aA f (l.drop (i.toNat+1)):=by
 have hk:i.toNat<l.length:=by omega
 rw [aO hf l i.toNat hk];congr 2;simp [List.getD,hk]
def cB (b:Bool):List C:=[.lit (.bool b)]
theorem CS (b:Bool):(cB b).length=1:=rfl
theorem y7 (b:Bool):al (cB b)=true:=rfl
noncomputable def dv (tk:List Bool):List GPart->Int
 |[]=>0
 |p::l=>if p.claim≠ -1/\(p.claim<0∨(tk.length:Int)<=p.claim) then 1 else if p.claim= -1/\p.capped=false then 21 else if p.capped=true/\cU (qOf p.cap)<0 then 7
  else if p.claim≠ -1/\tk.getD p.claim.toNat false=true then 20 else dv tk l
noncomputable def eP (a:bR) (tk:List Bool):Int:=if 24<a.length∨a.any eb=true then 2 else dv tk a.flatten
theorem ie:∀(a:bR),a.any eb=false->a.flatten.length<=a.length*24
 |[],_=>by simp
 |t::a,h=>by
  simp only [List.any_cons,Bool.or_eq_false_iff] at h;have:=ie a h.2;have h1:t.length<=24:=by have:=of_decide_eq_false h.1;omega
  simp only [List.flatten_cons,List.length_append,List.length_cons];omega
def F10:=And.intro zS (And.intro tf6 (And.intro Gc (And.intro tf2 (And.intro tf0 (And.intro Gd (And.intro tf8 (And.intro tf9 (And.intro Ep (And.intro CF (And.intro xE (And.intro AU (And.intro cD (And.intro tu (And.intro jz (tf5)))))))))))))))
theorem F11:type_of%F10:=F10
theorem mP (a:bR) (tk:List Bool) (ht:∀t∈a,t.length<=1000000000000) (hn:tk.length<=1000000000000) (hcp:∀p∈a.flatten,p.cap.num.size<=500000000000/\p.cap.den.size<=500000000000):
  aR prog 75 [.agg (bu a),.one (.sh 1 tk.length (aA cB tk))] (one (.int .i64 (eP a tk))):=by
 refine aP func75 rfl (by decide) (N:=70) rfl (by simp) (R:=[.tmp 4]) rfl fun en k0=>?_
 have hlong:True:=trivial;unfold eP;by_cases h24:24<a.length
 ·have hI:(24:Int)<(a.length:Int):=by omega
  refine awN ?_;simp only [F11,seval,bu];refine awR [] [0,0,0,0,0,26,26,26,0] ?_;simp only [F11,seval,hI];refine awT ?_;refine awN ?_;simp only [F11,seval];refine awX ?_;simp only [F11,seval,h24]
 have hI:¬(24:Int)<(a.length:Int):=by omega
 have hCF:=pu a (by omega) ht;cases hany:a.any eb
 ·rw [hany] at hCF;have hfl:=ie a hany;have hCC:=vl a (by omega) (by omega);simp only [h24,false_or,Bool.false_eq_true,if_false];refine awN ?_;simp only [F11,seval,bu];refine awR [] [0,0,0,0,0,26,26,26,0] ?_;simp only [F11,seval,hI];refine ⟨ab bF a,_,hCF,rfl,?_⟩;simp only [ak,F11,seval];refine awF ?_;refine awK ?_;simp only [F11,seval];refine awN ?_;simp only [F11,seval];refine ⟨ab bF a,_,hCC,by simp [al,ax,ab d9],?_⟩;simp only [ak,F11,seval];refine aQ [1,19,20,21] [] ?_;simp only [F11,seval];repeat' first|apply awS|apply awB
  refine aM (fun n st=>∃k nx,k<=a.flatten.length/\n=a.flatten.length-k/\dv tk (a.flatten.drop k)=dv tk a.flatten/\st=⟨mkT [(1,.val (.one (.sh 1 tk.length (aA cB tk)))),(19,.val (.one (.sh 5 a.flatten.length (aA bT a.flatten)))),(20,one (.int .i64 a.flatten.length)),(21,one (.int .i64 k))],mkH [],nx,0⟩) a.flatten.length ⟨0,_,by omega,by omega,rfl,rfl⟩ ?_;rintro n st ⟨k,nx,hk,rfl,hL,rfl⟩;have hcaps:∀p∈a.flatten,p.cap.num.size<=500000000000/\p.cap.den.size<=500000000000:=hcp;generalize a.flatten=l at *
  by_cases hlt:k<l.length
  ·have hI:(k:Int)<(l.length:Int):=by omega
   have hat:=aO eX l k hlt;rw [List.drop_eq_getElem_cons hlt] at hL;have hS:=yZ l[k].cap (hcaps _ (List.getElem_mem hlt)).1 (hcaps _ (List.getElem_mem hlt)).2;generalize l[k]=p at *
   simp only [dv] at hL;by_cases hc:p.claim= -1
   ·cases hcap:p.capped
    ·repeat' first|apply awS|apply awB
     refine awN ?_;simp only [F11,seval,hI];refine awT ?_;refine awK ?_;simp only [F11,seval];refine awN ?_;simp only [F11,seval,hat,bT];repeat refine ob ?_
     refine awN ?_;simp only [F11,seval,hc];refine awR [] [0,0,0,65,65,65,65,72,72,72,72,72,65,0,0] ?_;simp only [F11,seval,];refine awF ?_;refine awR [] [0,0,93,93,93,0,0] ?_;simp only [F11,seval,hcap];refine awT ?_;refine awN ?_;simp only [F11,seval];have hR:dv tk l=21:=by rw [←hL];simp [hc,hcap]
     refine awX ?_;simp only [F11,seval,hR]
    by_cases hsg:cU (qOf p.cap)<0
    ·repeat' first|apply awS|apply awB
     refine awN ?_;simp only [F11,seval,hI];refine awT ?_;refine awK ?_;simp only [F11,seval];refine awN ?_;simp only [F11,seval,hat,bT];repeat refine ob ?_
     refine awN ?_;simp only [F11,seval,hc];refine awR [] [0,0,0,65,65,65,65,72,72,72,72,72,65,0,0] ?_;simp only [F11,seval,];refine awF ?_;refine awR [] [0,0,93,93,93,0,0] ?_;simp only [F11,seval,hcap];refine awF ?_;refine awR [] [0,0,0,109,109,109,109,0,0] ?_;simp only [F11,seval];refine ⟨_,hS,rfl,?_⟩;simp only [ak,F11,seval,hsg];refine awT ?_;refine awN ?_;simp only [F11,seval];have hR:dv tk l=7:=by rw [←hL];simp [hc,hcap,hsg]
     refine awX ?_;simp only [F11,seval,hR]
    repeat' first|apply awS|apply awB
    refine awN ?_;simp only [F11,seval,hI];refine awT ?_;refine awK ?_;simp only [F11,seval];refine awN ?_;simp only [F11,seval,hat,bT];repeat refine ob ?_
    refine awN ?_;simp only [F11,seval,hc];refine awR [] [0,0,0,65,65,65,65,72,72,72,72,72,65,0,0] ?_;simp only [F11,seval,];refine awF ?_;refine awR [] [0,0,93,93,93,0,0] ?_;simp only [F11,seval,hcap];refine awF ?_;refine awR [] [0,0,0,109,109,109,109,0,0] ?_;simp only [F11,seval];refine ⟨_,hS,rfl,?_⟩;simp only [ak,F11,seval,hsg];refine awF ?_;refine awR [] [0,0,0,127,127,127,127,127,0,0] ?_;simp only [F11,seval];refine awF ?_;refine awK ?_;simp only [F11,seval];refine awN ?_;simp only [F11,seval];repeat refine ob ?_
    refine ⟨_,aI [1,19,20,21] [],l.length-(k+1),by omega,k+1,nx+1,by omega,rfl,?_,?_⟩
    ·rw [←hL];simp [hc,hcap,hsg]
    simp only [F11,seval];try rfl
   by_cases p1:p.claim<0
   ·repeat' first|apply awS|apply awB
    refine awN ?_;simp only [F11,seval,hI];refine awT ?_;refine awK ?_;simp only [F11,seval];refine awN ?_;simp only [F11,seval,hat,bT];repeat refine ob ?_
    refine awN ?_;simp only [F11,seval,hc];refine awR [] [0,0,0,65,65,65,65,72,72,72,72,72,65,0,0] ?_;simp only [F11,seval,p1];refine awT ?_;refine awN ?_;simp only [F11,seval];have hR:dv tk l=1:=by rw [←hL];simp [hc,p1]
    refine awX ?_;simp only [F11,seval,hR]
   by_cases p2:(tk.length:Int)<=p.claim
   ·repeat' first|apply awS|apply awB
    refine awN ?_;simp only [F11,seval,hI];refine awT ?_;refine awK ?_;simp only [F11,seval];refine awN ?_;simp only [F11,seval,hat,bT];repeat refine ob ?_
    refine awN ?_;simp only [F11,seval,hc];refine awR [] [0,0,0,65,65,65,65,72,72,72,72,72,65,0,0] ?_;simp only [F11,seval,p1,p2];refine awT ?_;refine awN ?_;simp only [F11,seval];have hR:dv tk l=1:=by rw [←hL];simp [hc,p2]
    refine awX ?_;simp only [F11,seval,hR]
   have a1:=CR CS tk p.claim false (by omega) (by omega);rw [Nat.mul_one] at a1;generalize hget:tk.getD p.claim.toNat false=bt at *
   cases hcap:p.capped
   ·cases bt
    ·repeat' first|apply awS|apply awB
     refine awN ?_;simp only [F11,seval,hI];refine awT ?_;refine awK ?_;simp only [F11,seval];refine awN ?_;simp only [F11,seval,hat,bT];repeat refine ob ?_
     refine awN ?_;simp only [F11,seval,hc];refine awR [] [0,0,0,65,65,65,65,72,72,72,72,72,65,0,0] ?_;simp only [F11,seval,p1,p2];refine awF ?_;refine awR [] [0,0,93,93,93,0,0] ?_;simp only [F11,seval,hcap];refine awF ?_;refine awR [] [0,0,0,109,109,109,109,0,0] ?_;simp only [F11,seval];refine awF ?_;refine awR [] [0,0,0,127,127,127,127,127,0,0] ?_;simp only [F11,seval,a1,cB];repeat refine ob ?_
     refine awF ?_;refine awK ?_;simp only [F11,seval];refine awN ?_;simp only [F11,seval];repeat refine ob ?_
     refine ⟨_,aI [1,19,20,21] [],l.length-(k+1),by omega,k+1,nx+1,by omega,rfl,?_,?_⟩
     ·rw [←hL];simp [hc,p1,p2,hcap]
     simp only [F11,seval];try rfl
    repeat' first|apply awS|apply awB
    refine awN ?_;simp only [F11,seval,hI];refine awT ?_;refine awK ?_;simp only [F11,seval];refine awN ?_;simp only [F11,seval,hat,bT];repeat refine ob ?_
    refine awN ?_;simp only [F11,seval,hc];refine awR [] [0,0,0,65,65,65,65,72,72,72,72,72,65,0,0] ?_;simp only [F11,seval,p1,p2];refine awF ?_;refine awR [] [0,0,93,93,93,0,0] ?_;simp only [F11,seval,hcap];refine awF ?_;refine awR [] [0,0,0,109,109,109,109,0,0] ?_;simp only [F11,seval];refine awF ?_;refine awR [] [0,0,0,127,127,127,127,127,0,0] ?_;simp only [F11,seval,a1,cB];repeat refine ob ?_
    refine awT ?_;refine awN ?_;simp only [F11,seval];have hR:dv tk l=20:=by rw [←hL];simp [hc,p1,p2,hcap]
    refine awX ?_;simp only [F11,seval,hR]
   by_cases hsg:cU (qOf p.cap)<0
   ·repeat' first|apply awS|apply awB
    refine awN ?_;simp only [F11,seval,hI];refine awT ?_;refine awK ?_;simp only [F11,seval];refine awN ?_;simp only [F11,seval,hat,bT];repeat refine ob ?_
    refine awN ?_;simp only [F11,seval,hc];refine awR [] [0,0,0,65,65,65,65,72,72,72,72,72,65,0,0] ?_;simp only [F11,seval,p1,p2];refine awF ?_;refine awR [] [0,0,93,93,93,0,0] ?_;simp only [F11,seval,hcap];refine awF ?_;refine awR [] [0,0,0,109,109,109,109,0,0] ?_;simp only [F11,seval];refine ⟨_,hS,rfl,?_⟩;simp only [ak,F11,seval,hsg];refine awT ?_;refine awN ?_;simp only [F11,seval];have hR:dv tk l=7:=by rw [←hL];simp [hc,p1,p2,hcap,hsg]
    refine awX ?_;simp only [F11,seval,hR]
   cases bt
   ·repeat' first|apply awS|apply awB
    refine awN ?_;simp only [F11,seval,hI];refine awT ?_;refine awK ?_;simp only [F11,seval];refine awN ?_;simp only [F11,seval,hat,bT];repeat refine ob ?_
    refine awN ?_;simp only [F11,seval,hc];refine awR [] [0,0,0,65,65,65,65,72,72,72,72,72,65,0,0] ?_;simp only [F11,seval,p1,p2];refine awF ?_;refine awR [] [0,0,93,93,93,0,0] ?_;simp only [F11,seval,hcap];refine awF ?_;refine awR [] [0,0,0,109,109,109,109,0,0] ?_;simp only [F11,seval];refine ⟨_,hS,rfl,?_⟩;simp only [ak,F11,seval,hsg];refine awF ?_;refine awR [] [0,0,0,127,127,127,127,127,0,0] ?_;simp only [F11,seval,a1,cB];repeat refine ob ?_
    refine awF ?_;refine awK ?_;simp only [F11,seval];refine awN ?_;simp only [F11,seval];repeat refine ob ?_
    refine ⟨_,aI [1,19,20,21] [],l.length-(k+1),by omega,k+1,nx+1,by omega,rfl,?_,?_⟩
    ·rw [←hL];simp [hc,p1,p2,hcap,hsg]
    simp only [F11,seval];try rfl
   repeat' first|apply awS|apply awB
   refine awN ?_;simp only [F11,seval,hI];refine awT ?_;refine awK ?_;simp only [F11,seval];refine awN ?_;simp only [F11,seval,hat,bT];repeat refine ob ?_
   refine awN ?_;simp only [F11,seval,hc];refine awR [] [0,0,0,65,65,65,65,72,72,72,72,72,65,0,0] ?_;simp only [F11,seval,p1,p2];refine awF ?_;refine awR [] [0,0,93,93,93,0,0] ?_;simp only [F11,seval,hcap];refine awF ?_;refine awR [] [0,0,0,109,109,109,109,0,0] ?_;simp only [F11,seval];refine ⟨_,hS,rfl,?_⟩;simp only [ak,F11,seval,hsg];refine awF ?_;refine awR [] [0,0,0,127,127,127,127,127,0,0] ?_;simp only [F11,seval,a1,cB];repeat refine ob ?_
   refine awT ?_;refine awN ?_;simp only [F11,seval];have hR:dv tk l=20:=by rw [←hL];simp [hc,p1,p2,hcap,hsg]
   refine awX ?_;simp only [F11,seval,hR]
  obtain rfl:k=l.length:=by omega
  have hI:¬(l.length:Int)<(l.length:Int):=by omega
  rw [List.drop_length] at hL;simp only [dv] at hL;refine awN ?_;simp only [F11,seval,hI];refine awF ?_;refine awQ ?_;simp only [F11,seval];refine awN ?_;simp only [F11,seval];refine awX ?_;simp only [F11,seval,←hL]
 rw [hany] at hCF;refine awN ?_;simp only [F11,seval,bu];refine awR [] [0,0,0,0,0,26,26,26,0] ?_;simp only [F11,seval,hI];refine ⟨ab bF a,_,hCF,rfl,?_⟩;simp only [ak,F11,seval];refine awT ?_;refine awN ?_;simp only [F11,seval];refine awX ?_;simp only [F11,seval]
end Go.Proofs.YtokmkopihhnggaaGreatDoor
