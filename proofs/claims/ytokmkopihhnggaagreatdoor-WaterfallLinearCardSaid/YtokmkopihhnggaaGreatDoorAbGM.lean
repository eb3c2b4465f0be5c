/- Groups of estates as cells; comparisons of legs; maps of legs. -/
import Derived.Test.YtokmkopihhnggaaGreatDoorAb11M
import Derived.Test.YtokmkopihhnggaaGreatDoorGrpM
set_option linter.unusedVariables false
set_option linter.unusedSimpArgs false
namespace Go.Proofs.YtokmkopihhnggaaGreatDoor
open Go Go.RowKit
def cClaim (c : GClaim) : List C := [.lit (.int .i64 c.holder), .lit (.int .i64 c.rank), .lit (.bool c.amount.neg), .lit (.string c.amount.num), .lit (.string c.amount.den)]
def cPart (p : GPart) : List C := [.lit (.int .i64 p.claim), .lit (.bool p.capped), .lit (.bool p.cap.neg), .lit (.string p.cap.num), .lit (.string p.cap.den)]
def cTier (t : List GPart) : List C := [.sh 5 t.length (flat cPart t)]
def cAgr (a : GAgr) : List C := [.sh 1 a.length (flat cTier a)]
def cEst (e : GEst) : List C := [.lit (.bool e.cash.neg), .lit (.string e.cash.num), .lit (.string e.cash.den), .sh 5 e.claims.length (flat cClaim e.claims), .sh 1 e.agrs.length (flat cAgr e.agrs)]
abbrev Leg := Int × Int
def cLeg (l : Leg) : List C := [.lit (.int .i64 l.1), .lit (.int .i64 l.2)]
def cDebt (d : GDebt) : List C := [.lit (.bool d.whole.neg), .lit (.string d.whole.num), .lit (.string d.whole.den), .sh 2 d.legs.length (flat cLeg d.legs)]
def cGrp (g : GGrp) : List C := [.sh 5 g.ests.length (flat cEst g.ests), .sh 4 g.debts.length (flat cDebt g.debts)]
def cI (n : Int) : List C := [.lit (.int .i64 n)]
theorem cClaim_len (c : GClaim) : (cClaim c).length = 5 := rfl
theorem cPart_len (c : GPart) : (cPart c).length = 5 := rfl
theorem cTier_len (c : List GPart) : (cTier c).length = 1 := rfl
theorem cAgr_len (c : GAgr) : (cAgr c).length = 1 := rfl
theorem cEst_len (c : GEst) : (cEst c).length = 5 := rfl
theorem cLeg_len (c : Leg) : (cLeg c).length = 2 := rfl
theorem cDebt_len (c : GDebt) : (cDebt c).length = 4 := rfl
theorem cI_len (c : Int) : (cI c).length = 1 := rfl
theorem cClaim_pure (c : GClaim) : pureCs (cClaim c) = true := rfl
theorem cPart_pure (c : GPart) : pureCs (cPart c) = true := rfl
theorem cTier_pure (t : List GPart) : pureCs (cTier t) = true := by simp [cTier, pureCs, pureC, flat_pure cPart_pure]
theorem cAgr_pure (a : GAgr) : pureCs (cAgr a) = true := by simp [cAgr, pureCs, pureC, flat_pure cTier_pure]
theorem cEst_pure (e : GEst) : pureCs (cEst e) = true := by simp [cEst, pureCs, pureC, flat_pure cClaim_pure, flat_pure cAgr_pure]
theorem cLeg_pure (c : Leg) : pureCs (cLeg c) = true := rfl
theorem cDebt_pure (d : GDebt) : pureCs (cDebt d) = true := by simp [cDebt, pureCs, pureC, flat_pure cLeg_pure]
theorem cI_pure (n : Int) : pureCs (cI n) = true := rfl
end Go.Proofs.YtokmkopihhnggaaGreatDoor
