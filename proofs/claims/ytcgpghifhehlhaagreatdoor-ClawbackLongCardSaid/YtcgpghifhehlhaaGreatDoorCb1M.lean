/- Demands and payments back: the builder of demands, Returns on both sides, payments back compared; walked by the abstract machine. -/
import Derived.Test.YtcgpghifhehlhaaGreatDoorCc2M
import Derived.Test.YtcgpghifhehlhaaGreatDoorGu4M
set_option linter.unusedVariables false
set_option linter.unusedSimpArgs false
namespace Go.Proofs.YtcgpghifhehlhaaGreatDoor
open Go Go.RowKit
structure GRet where
 est:Int
 holder:Int
 rank:Int
 amount:GRat
deriving Inhabited
def di (r:GRet):List C:=[.lit (.int .i64 r.est),.lit (.int .i64 r.holder),.lit (.int .i64 r.rank),.lit (.bool r.amount.neg),.lit (.string r.amount.num),.lit (.string r.amount.den)]
theorem CX (r:GRet):(di r).length=6:=rfl
theorem p9 (r:GRet):av (di r)=true:=rfl
theorem Br (n m:Nat):((n:Nat):Int).tmod (m:Int)=((n%m:Nat):Int):=by norm_cast
end Go.Proofs.YtcgpghifhehlhaaGreatDoor
