/- The waterfall's examples hold; walked by the abstract machine. -/
import Derived.Test.YtokmkopihhnggaaGreatDoorWs3M
set_option linter.unusedVariables false
set_option maxHeartbeats 4000000
set_option maxRecDepth 100000
set_option linter.unusedSimpArgs false
set_option linter.defProp false
namespace Go.Proofs.YtokmkopihhnggaaGreatDoor
open Go Go.RowKit Go.Proofs.Tryz
theorem Fp (a b:Nat) (ha:a<=9223372036854775807) (hb:b<=9223372036854775807) (hd:0<b):aU prog 40 [.one (.lit (.int .i64 a)),.one (.lit (.int .i64 b))] (.val (.agg (ai (enc (mkRat (a:Int) b))))):=
 bf (b8 func40 (by decide) (by kernel_rfl)) [.int .i64 a,.int .i64 b] (aE (enc (mkRat (a:Int) b))) fun w=>wK a b w ha hb hd
def KQ:=And.intro zS (And.intro tf2 (And.intro tf0 (And.intro J3 (And.intro J5 (tf5)))))
theorem dT:type_of%KQ:=KQ
theorem CE:aU prog 27 [] (one (.bool true)):=by
 refine aT func27 rfl (by decide) (N:=65) rfl (by simp) (R:=[.tmp 0]) rfl fun en k0=>?_
 refine awN ?_;simp only [dT,seval];refine awN ?_;simp only [dT,seval];refine awN ?_;simp only [dT,seval];refine ff (t:=2) (by rfl) (by rfl) (by decide) (by rfl) ?_;simp only [dT,seval];refine awN ?_;simp only [dT,seval];refine ⟨_,(gA 15 (by decide) (by decide)),rfl,?_⟩;try simp only [ak,dT,seval,ai]
 refine ff (t:=3) (by rfl) (by rfl) (by decide) (by rfl) ?_;simp only [dT,seval];refine awN ?_;simp only [dT,seval];refine ⟨_,(gA 12 (by decide) (by decide)),rfl,?_⟩;try simp only [ak,dT,seval,ai]
 refine ff (t:=4) (by rfl) (by rfl) (by decide) (by rfl) ?_;simp only [dT,seval];refine awN ?_;simp only [dT,seval];refine ⟨_,KB,rfl,?_⟩;try simp only [ak,dT,seval,aI]
 refine ⟨_,(gA 30 (by decide) (by decide)),rfl,?_⟩;try simp only [ak,dT,seval,ai]
 refine ⟨_,(gA 20 (by decide) (by decide)),rfl,?_⟩;try simp only [ak,dT,seval,ai,ab av,ab aB]
 refine ⟨_,(rE (exE []) ((50:Nat):Int) (((30:Int):Rat)) (((20:Int):Rat)) (by decide) (xT [] (by simp) (by simp)) (xS [] (by simp) (by simp)) (qB.mono (fb 50 (by decide)) (by decide)) (kN 50) rfl GS),rfl,?_⟩;try simp only [ak,dT,seval]
 refine awR [26,29] [0,0,0,0,0,0,0,0] ?_;simp only [dT,seval];refine ⟨_,Fg _ _ 25 _ ⟨_,by rfl,rfl⟩ (fun y B h=>?_),?_⟩
 ·by_cases hy:y<700
  ·exact hy
  exfalso;simp only [ap] at h;repeat rw [if_neg (by omega)] at h
  cases h
 rintro res H' nx' ⟨sx,sy,s2,cs2,rfl,rfl⟩;simp only [dT,seval,(id SD)];refine ⟨_,(gA 10 (by decide) (by decide)),rfl,?_⟩;try simp only [ak,dT,seval,ai]
 refine ⟨_,(gA 40 (by decide) (by decide)),rfl,?_⟩;try simp only [ak,dT,seval,ai]
 refine ⟨_,gc (rE (exE [xB]) ((50:Nat):Int) (((10:Int):Rat)) (((40:Int):Rat)) (by decide) (xT [xB] (by simp) (by simpa using Hy)) (xS [xB] (by simp) (by simpa using Hy)) (qB.mono (fb 50 (by decide)) (by decide)) (kN 50) rfl GT) rfl (fun e σ w vs hW hd=>?_),?_⟩
 ·obtain ⟨v1,vs1,rfl,d1,hd1⟩:=bI hd;obtain ⟨v2,vs2,rfl,d2,hd2⟩:=bI hd1;obtain ⟨v3,vs3,rfl,d3,hd3⟩:=bI hd2;obtain ⟨v4,vs4,rfl,d4,hd4⟩:=bI hd3;obtain ⟨us,rfl,du⟩:=d1;exact ⟨⟨us,rfl,nv (nt:=25) (na:=10) (n1:=708) (n2:=715) (t1:=[xP 1]) (t2:=[xP 0]) hW du (by rfl) (by rfl) (by rfl) (by rfl)⟩,cM fq (by rfl) d2,cM fq (by rfl) d3,cM fq (by rfl) d4,(by cases vs4 with|nil=>exact trivial|cons v vs=>exact hd4.elim)⟩
 rintro res H' nx' ⟨rfl,rfl,rfl⟩;simp only [dT,seval,(id SD)];refine aS [0,1,2,3,4,5,6] [10] ?_;simp only [dT,seval];refine awR [33,36,41,44] [0,0,0,0,0,0,0,0,77,77,77,77,77,77,77,0,0] ?_;simp only [dT,seval];refine ⟨_,Fg _ _ 32 _ ⟨_,by rfl,rfl⟩ (fun y B h=>?_),?_⟩
 ·by_cases hy:y<700
  ·exact hy
  exfalso;simp only [ap] at h;repeat rw [if_neg (by omega)] at h
  cases h
 rintro res H' nx' ⟨sx,sy,s2,cs2,rfl,rfl⟩;simp only [dT,seval,(id SD)];refine ⟨_,(gA 35 (by decide) (by decide)),rfl,?_⟩;try simp only [ak,dT,seval,ai]
 refine ⟨_,(gA 15 (by decide) (by decide)),rfl,?_⟩;try simp only [ak,dT,seval,ai]
 refine ⟨_,gc (rE (exE [xCC]) ((50:Nat):Int) (((35:Int):Rat)) (((15:Int):Rat)) (by decide) (xT [xCC] (by simp) (by simpa using ve)) (xS [xCC] (by simp) (by simpa using ve)) (qB.mono (fb 50 (by decide)) (by decide)) (kN 50) rfl GU) rfl (fun e σ w vs hW hd=>?_),?_⟩
 ·obtain ⟨v1,vs1,rfl,d1,hd1⟩:=bI hd;obtain ⟨v2,vs2,rfl,d2,hd2⟩:=bI hd1;obtain ⟨v3,vs3,rfl,d3,hd3⟩:=bI hd2;obtain ⟨v4,vs4,rfl,d4,hd4⟩:=bI hd3;obtain ⟨us,rfl,du⟩:=d1;exact ⟨⟨us,rfl,nv (nt:=32) (na:=10) (n1:=708) (n2:=715) (t1:=[xC 1 15]) (t2:=[xP 0]) hW du (by rfl) (by rfl) (by rfl) (by rfl)⟩,cM fq (by rfl) d2,cM fq (by rfl) d3,cM fq (by rfl) d4,(by cases vs4 with|nil=>exact trivial|cons v vs=>exact hd4.elim)⟩
 rintro res H' nx' ⟨rfl,rfl,rfl⟩;simp only [dT,seval,(id SD)];refine ⟨_,KD _ _ 40 _ ⟨_,by rfl,rfl⟩ (fun y B h=>?_),?_⟩
 ·by_cases hy:y<800
  ·exact hy
  exfalso;simp only [ap] at h;repeat rw [if_neg (by omega)] at h
  cases h
 rintro res H' nx' ⟨sx,sy,s2,cs2,rfl,rfl⟩;simp only [dT,seval,(id SD)];refine ⟨_,(gA 60 (by decide) (by decide)),rfl,?_⟩;try simp only [ak,dT,seval,ai]
 refine ⟨_,(gA 35 (by decide) (by decide)),rfl,?_⟩;try simp only [ak,dT,seval,ai]
 refine ⟨_,gc (rE (exE [xCC]) ((95:Nat):Int) (((60:Int):Rat)) (((35:Int):Rat)) (by decide) (xT [xCC] (by simp) (by simpa using ve)) (xS [xCC] (by simp) (by simpa using ve)) (qB.mono (fb 95 (by decide)) (by decide)) (kN 95) rfl Fo) rfl (fun e σ w vs hW hd=>?_),?_⟩
 ·obtain ⟨v1,vs1,rfl,d1,hd1⟩:=bI hd;obtain ⟨v2,vs2,rfl,d2,hd2⟩:=bI hd1;obtain ⟨v3,vs3,rfl,d3,hd3⟩:=bI hd2;obtain ⟨v4,vs4,rfl,d4,hd4⟩:=bI hd3;obtain ⟨us,rfl,du⟩:=d1;exact ⟨⟨us,rfl,nv (nt:=40) (na:=10) (n1:=808) (n2:=815) (t1:=[xC 1 15]) (t2:=[xP 0]) hW du (by rfl) (by rfl) (by rfl) (by rfl)⟩,cM fq (by rfl) d2,cM fq (by rfl) d3,cM fq (by rfl) d4,(by cases vs4 with|nil=>exact trivial|cons v vs=>exact hd4.elim)⟩
 rintro res H' nx' ⟨rfl,rfl,rfl⟩;simp only [dT,seval,(id SD)];refine aS [0,1,2,3,4,5,6,7] [10] ?_;simp only [dT,seval];refine awR [51,54] [0,0,0,0,0,0,0,0,0,0] ?_;simp only [dT,seval];refine ⟨_,Fg _ _ 50 _ ⟨_,by rfl,rfl⟩ (fun y B h=>?_),?_⟩
 ·by_cases hy:y<700
  ·exact hy
  exfalso;simp only [ap] at h;repeat rw [if_neg (by omega)] at h
  cases h
 rintro res H' nx' ⟨sx,sy,s2,cs2,rfl,rfl⟩;simp only [dT,seval,(id SD)];refine ⟨_,(Fp 114 5 (by decide) (by decide) (by decide)),rfl,?_⟩;try simp only [ak,dT,seval,ai]
 refine ⟨_,(Fp 76 5 (by decide) (by decide) (by decide)),rfl,?_⟩;try simp only [ak,dT,seval,ai]
 refine ⟨_,gc (rE (exE [xD]) ((50:Nat):Int) (mkRat 114 5) (mkRat 76 5) (by decide) (xT [xD] (by simp) (by simpa using Hz)) (xS [xD] (by simp) (by simpa using Hz)) (qB.mono (fb 50 (by decide)) (by decide)) (kN 50) rfl GV) rfl (fun e σ w vs hW hd=>?_),?_⟩
 ·obtain ⟨v1,vs1,rfl,d1,hd1⟩:=bI hd;obtain ⟨v2,vs2,rfl,d2,hd2⟩:=bI hd1;obtain ⟨v3,vs3,rfl,d3,hd3⟩:=bI hd2;obtain ⟨v4,vs4,rfl,d4,hd4⟩:=bI hd3;obtain ⟨us,rfl,du⟩:=d1;exact ⟨⟨us,rfl,nv (nt:=50) (na:=49) (n1:=708) (n2:=715) (t1:=[xC (-1) 12]) (t2:=[xP 0,xP 1]) hW du (by rfl) (by rfl) (by rfl) (by rfl)⟩,cM fq (by rfl) d2,cM fq (by rfl) d3,cM fq (by rfl) d4,(by cases vs4 with|nil=>exact trivial|cons v vs=>exact hd4.elim)⟩
 rintro res H' nx' ⟨rfl,rfl,rfl⟩;simp only [dT,seval,(id SD)];refine aS [0,5,6,7,8] [] ?_;simp only [dT,seval];refine awR [] [0,0,115,0,0,121,0,0,127,0,0] ?_;simp only [dT,seval];refine awX ?_;(first|(simp only [dT,seval];done)|(simp only [dT,seval];first|(simp [];done)))

end Go.Proofs.YtokmkopihhnggaaGreatDoor
