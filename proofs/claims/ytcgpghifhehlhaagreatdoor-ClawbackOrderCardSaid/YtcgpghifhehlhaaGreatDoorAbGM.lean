/- Groups of estates as cells; comparisons of legs; maps of legs. -/
import Derived.Test.YtcgpghifhehlhaaGreatDoorAb11M
import Derived.Test.YtcgpghifhehlhaaGreatDoorGrpM
set_option linter.unusedVariables false
set_option linter.unusedSimpArgs false
namespace Go.Proofs.YtcgpghifhehlhaaGreatDoor
open Go Go.RowKit Go.Proofs.Tryz
abbrev Leg:=Int×Int
def cI (n:Int):List C:=[.lit (.int .i64 n)]
theorem qP (c:Int):(cI c).length=1:=rfl
theorem xk:ldT prog 3=some (false,1):=by kernel_rfl
theorem pq (cs:Array Value) (i:Nat) (v:Value) (h:cs[i]? =some v) (w:World):(part 3 cs i).run prog w= .ok v w:=by
 simp [part,(Fs xk w).1,h]
end Go.Proofs.YtcgpghifhehlhaaGreatDoor
