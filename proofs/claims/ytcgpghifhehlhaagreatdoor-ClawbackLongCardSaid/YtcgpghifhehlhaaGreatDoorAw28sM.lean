/- The example of the chapter on payments back: clawback.Revive and clearing.Solve at it, reckoned. -/
import Derived.Test.YtcgpghifhehlhaaGreatDoorAw28hM
set_option linter.unusedVariables false
set_option linter.unusedSimpArgs false
namespace Go.Proofs.YtcgpghifhehlhaaGreatDoor
open Go Go.RowKit Go.Proofs.Tryz
def w9 (n:Nat):List C:=[.lit (.bool false),.lit (.string (Jn n)),.lit (.string cc)]
def cl9 (n:Nat):List C:=[.lit (.int .i64 (-1)),.lit (.int .i64 2)]++w9 n
def bf:C:= .lit (.slice none 0 0)
def g9:A1:= .agg [.sh 5 1 (w9 10++[.sh 5 1 (cl9 30),bf]),bf]
def r9:A1:= .one (.sh 6 1 ([.lit (.int .i64 0),.lit (.int .i64 (-1)),.lit (.int .i64 2)]++w9 30))
def x9:A1:= .agg [.sh 5 1 (w9 40++[.sh 5 2 (cl9 30++cl9 30),bf]),bf]
def s9:A1:= .agg [.sh 3 1 (w9 40),.sh 1 1 [.sh 3 2 (w9 20++w9 20)],.sh 1 1 [.sh 3 2 (w9 20++w9 20)],.sh 1 1 [.sh 3 2 (w9 0++w9 0)],.sh 1 1 [.sh 3 2 (w9 20++w9 20)],.sh 3 1 (w9 0),.sh 3 1 (w9 0),.sh 1 1 [.lit (.bool false)]]
theorem Fp:vC prog (bl bz) (Au prog (bl bz) DK 100000 60) 17 [g9,r9]=some (.tup [x9,.one (.lit (.int .i64 0))]):=by kernel_rfl
theorem Fq:vC prog (bl bz) (Au prog (bl bz) DK 100000 60) 46 [x9]=some (.tup [s9,.one (.lit (.int .i64 0))]):=by kernel_rfl
theorem Eh:ch prog 17 [g9,r9] (.tup [x9,.one (.lit (.int .i64 0))]):=BG (bl bz) DK 100000 60 (by kernel_rfl) rfl Fp
theorem Ei:ch prog 46 [x9] (.tup [s9,.one (.lit (.int .i64 0))]):=BG (bl bz) DK 100000 60 (by kernel_rfl) rfl Fq
end Go.Proofs.YtcgpghifhehlhaaGreatDoor
