/- Demands and payments back: the builder of demands, Returns on both sides, payments back compared; walked by the abstract machine. -/
import Derived.Test.YtcgpghifhehlhaaGreatDoorJfM
import Derived.Test.YtcgpghifhehlhaaGreatDoorEqsM
import Derived.Test.YtcgpghifhehlhaaGreatDoorGu1M
import Derived.Test.YtcgpghifhehlhaaGreatDoorPl3M
set_option linter.unusedVariables false
set_option maxHeartbeats 4000000
set_option maxRecDepth 100000
set_option linter.unusedSimpArgs false
namespace Go.Proofs.YtcgpghifhehlhaaGreatDoor
open Go Go.RowKit Go.Proofs.Tryz
def dn (d:Dem):List C:=[.lit (.int .i64 d.deb),.lit (.int .i64 d.par),.lit (.int .i64 d.gnd),.lit (.int .i64 d.cts)]
theorem AF (d:Dem):(dn d).length=4:=rfl
theorem aC (d:Dem):av (dn d)=true:=rfl
structure GRet where
 est:Int
 holder:Int
 rank:Int
 amount:GRat
deriving Inhabited
theorem Br (n m:Nat):((n:Nat):Int).tmod (m:Int)=((n%m:Nat):Int):=by norm_cast
def inR (c:Int):Bool:=decide (0<=c)&&decide (c<=1125899906842624)
theorem Cz (c:Int):ch prog 50 [.one (.lit (.int .i64 c))] (one (.bool (inR c))):=by
 refine bF func50 rfl (by decide) (N:=9) rfl (by simp) (R:=[.tmp 2]) rfl fun en k0=>?_
 refine awN ?_;simp only [zT,seval];repeat refine ob ?_
 by_cases h0:(0:Int)<=c
 ·by_cases h1:c<=(1125899906842624:Int)
  ·refine awR [] [0,0,0,13,13,0,0] ?_;simp only [zT,seval,h0,h1];repeat refine ob ?_
   refine awX ?_;simp only [zT,seval,inR];simp [*]
  refine awR [] [0,0,0,13,13,0,0] ?_;simp only [zT,seval,h0,h1];repeat refine ob ?_
  refine awX ?_;simp only [zT,seval,inR];simp [*]
 refine awR [] [0,0,0,13,13,0,0] ?_;simp only [zT,seval,h0];repeat refine ob ?_
 refine awX ?_;simp only [zT,seval,inR];simp [*]
theorem Dp (c:Int):ch prog 53 [.one (.lit (.int .i64 c))] (one (.bool (inR c))):=by
 refine bF func53 rfl (by decide) (N:=9) rfl (by simp) (R:=[.tmp 2]) rfl fun en k0=>?_
 refine awN ?_;simp only [zT,seval];repeat refine ob ?_
 by_cases h0:(0:Int)<=c
 ·by_cases h1:c<=(1125899906842624:Int)
  ·refine awR [] [0,0,0,13,13,0,0] ?_;simp only [zT,seval,h0,h1];repeat refine ob ?_
   refine awX ?_;simp only [zT,seval,inR];simp [*]
  refine awR [] [0,0,0,13,13,0,0] ?_;simp only [zT,seval,h0,h1];repeat refine ob ?_
  refine awX ?_;simp only [zT,seval,inR];simp [*]
 refine awR [] [0,0,0,13,13,0,0] ?_;simp only [zT,seval,h0];repeat refine ob ?_
 refine awX ?_;simp only [zT,seval,inR];simp [*]
end Go.Proofs.YtcgpghifhehlhaaGreatDoor
