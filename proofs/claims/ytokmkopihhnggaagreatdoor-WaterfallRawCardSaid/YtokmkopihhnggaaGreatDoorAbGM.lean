/- Groups of estates as cells; comparisons of legs; maps of legs. -/
import Derived.Test.YtokmkopihhnggaaGreatDoorAb11M
import Derived.Test.YtokmkopihhnggaaGreatDoorGrpM
set_option linter.unusedVariables false
set_option linter.unusedSimpArgs false
namespace Go.Proofs.YtokmkopihhnggaaGreatDoor
open Go Go.RowKit
def b0 (c:GClaim):List C:=[.lit (.int .i64 c.holder),.lit (.int .i64 c.rank),.lit (.bool c.amount.neg),.lit (.string c.amount.num),.lit (.string c.amount.den)]
def bT (p:GPart):List C:=[.lit (.int .i64 p.claim),.lit (.bool p.capped),.lit (.bool p.cap.neg),.lit (.string p.cap.num),.lit (.string p.cap.den)]
def bD (t:List GPart):List C:=[.sh 5 t.length (aA bT t)]
def bu (a:bR):List C:=[.sh 1 a.length (aA bD a)]
def aJ (e:GEst):List C:=[.lit (.bool e.cash.neg),.lit (.string e.cash.num),.lit (.string e.cash.den),.sh 5 e.claims.length (aA b0 e.claims),.sh 1 e.agrs.length (aA bu e.agrs)]
abbrev Leg:=Int×Int
def cI (n:Int):List C:=[.lit (.int .i64 n)]
theorem cK (c:GClaim):(b0 c).length=5:=rfl
theorem eX (c:GPart):(bT c).length=5:=rfl
theorem eA (c:List GPart):(bD c).length=1:=rfl
theorem gI (c:bR):(bu c).length=1:=rfl
theorem mO (c:Int):(cI c).length=1:=rfl
theorem ao (c:GClaim):al (b0 c)=true:=rfl
theorem d9 (c:GPart):al (bT c)=true:=rfl
theorem bF (t:List GPart):al (bD t)=true:=by simp [bD,al,ax,ab d9]
theorem au (a:bR):al (bu a)=true:=by simp [bu,al,ax,ab bF]
theorem bg (n:Int):al (cI n)=true:=rfl
end Go.Proofs.YtokmkopihhnggaaGreatDoor
