/- Groups of estates as cells; comparisons of legs; maps of legs. -/
import Derived.Test.YtokmkopihhnggaaGreatDoorAb11M
import Derived.Test.YtokmkopihhnggaaGreatDoorGrpM
set_option linter.unusedVariables false
set_option linter.unusedSimpArgs false
namespace Go.Proofs.YtokmkopihhnggaaGreatDoor
open Go Go.RowKit
def bj (c:GClaim):List C:=[.lit (.int .i64 c.holder),.lit (.int .i64 c.rank),.lit (.bool c.amount.neg),.lit (.string c.amount.num),.lit (.string c.amount.den)]
def bA (p:GPart):List C:=[.lit (.int .i64 p.claim),.lit (.bool p.capped),.lit (.bool p.cap.neg),.lit (.string p.cap.num),.lit (.string p.cap.den)]
def bF (t:List GPart):List C:=[.sh 5 t.length (ar bA t)]
def bz (a:bP):List C:=[.sh 1 a.length (ar bF a)]
def aI (e:GEst):List C:=[.lit (.bool e.cash.neg),.lit (.string e.cash.num),.lit (.string e.cash.den),.sh 5 e.claims.length (ar bj e.claims),.sh 1 e.agrs.length (ar bz e.agrs)]
abbrev Leg:=Int×Int
def ko (l:Leg):List C:=[.lit (.int .i64 l.1),.lit (.int .i64 l.2)]
def iC (d:GDebt):List C:=[.lit (.bool d.whole.neg),.lit (.string d.whole.num),.lit (.string d.whole.den),.sh 2 d.legs.length (ar ko d.legs)]
def fN (g:GGrp):List C:=[.sh 5 g.ests.length (ar aI g.ests),.sh 4 g.debts.length (ar iC g.debts)]
def cI (n:Int):List C:=[.lit (.int .i64 n)]
theorem dk (c:GClaim):(bj c).length=5:=rfl
theorem fZ (c:GPart):(bA c).length=5:=rfl
theorem eP (c:List GPart):(bF c).length=1:=rfl
theorem jd (c:bP):(bz c).length=1:=rfl
theorem kp (c:GEst):(aI c).length=5:=rfl
theorem im (c:Leg):(ko c).length=2:=rfl
theorem B7 (c:GDebt):(iC c).length=4:=rfl
theorem nL (c:Int):(cI c).length=1:=rfl
theorem av (c:GClaim):al (bj c)=true:=rfl
theorem cT (c:GPart):al (bA c)=true:=rfl
theorem bR (t:List GPart):al (bF t)=true:=by simp [bF,al,aw,ab cT]
theorem aB (a:bP):al (bz a)=true:=by simp [bz,al,aw,ab bR]
theorem dh (e:GEst):al (aI e)=true:=by simp [aI,al,aw,ab av,ab aB]
theorem f4 (c:Leg):al (ko c)=true:=rfl
theorem bG (d:GDebt):al (iC d)=true:=by simp [iC,al,aw,ab f4]
theorem bm (n:Int):al (cI n)=true:=rfl
end Go.Proofs.YtokmkopihhnggaaGreatDoor
