/-
  DERIVED. GIVEN WITH THE SEED: THE CARDS: each row of YtgmedcncbpdimaaDoorRows.lean that lists a variable, with what it lists TIED to the program's text (the seventh form; the later family's looks); each row that meets fmt, with fmt's text TOLD by the authors' own Lean function (tested against real Go, not proved from fmt's source: count such statements apart). THE CARD IS WHAT COUNTS. Prove the row's statement (the work); the ties are given (YtgmedcncbpdimaaDoorTie.lean); close each card by the builder's one call (the guide's Derived/Test/ToyasCard.lean, 'card_holds'). Laid BY PROGRAM, IN A SANDBOX (cutbox-door.mjs). By AI agents, Wed Nov 11 2026. No macro, syntax, notation, axiom, sorry.
-/
import Derived.Test.YtgmedcncbpdimaaDoorRows
import GoSem.ClaimSeven
namespace Go.Proofs.YtgmedcncbpdimaaDoor
namespace Rows

/-- THE TIED CARD OF 'insolvencylaw18.GuaranteeLast'. -/
def guaranteeLastCard : Claim7 := { stood := { row := guaranteeLastRow, standIns := [], harness := (true, "be437278c60a98779884197f51975745da51c41a2227d6515a3f7d7c6acc018d"), looks := false }, kinds := [], alts := [], laidByText := true, laidKinds := [.data, .pinned], laidTests := true, laidLooks := .later }
def GuaranteeLastCardSaid : Prop := Claim7.holds Tryd.pinned (.plain (OpenSpec.ofChange guaranteeLastSpec)) guaranteeLastCard

/-- THE TIED CARD OF 'insolvencylaw18.GuaranteeRefunds'. -/
def guaranteeRefundsCard : Claim7 := { stood := { row := guaranteeRefundsRow, standIns := [], harness := (true, "be437278c60a98779884197f51975745da51c41a2227d6515a3f7d7c6acc018d"), looks := false }, kinds := [], alts := [], laidByText := true, laidKinds := [.data, .pinned], laidTests := true, laidLooks := .later }
def GuaranteeRefundsCardSaid : Prop := Claim7.holds Tryd.pinned (.plain (OpenSpec.ofChange guaranteeRefundsSpec)) guaranteeRefundsCard

/-- THE TIED CARD OF 'insolvencylaw18.GuaranteeGrows'. -/
def guaranteeGrowsCard : Claim7 := { stood := { row := guaranteeGrowsRow, standIns := [], harness := (true, "be437278c60a98779884197f51975745da51c41a2227d6515a3f7d7c6acc018d"), looks := false }, kinds := [], alts := [], laidByText := true, laidKinds := [.data, .pinned], laidTests := true, laidLooks := .later }
def GuaranteeGrowsCardSaid : Prop := Claim7.holds Tryd.pinned (.plain (OpenSpec.ofChange guaranteeGrowsSpec)) guaranteeGrowsCard

/-- THE TIED CARD OF 'insolvencylaw18.GuaranteeRates'. -/
def guaranteeRatesCard : Claim7 := { stood := { row := guaranteeRatesRow, standIns := [], harness := (true, "be437278c60a98779884197f51975745da51c41a2227d6515a3f7d7c6acc018d"), looks := false }, kinds := [], alts := [], laidByText := true, laidKinds := [.data, .pinned], laidTests := true, laidLooks := .later }
def GuaranteeRatesCardSaid : Prop := Claim7.holds Tryd.pinned (.plain (OpenSpec.ofChange guaranteeRatesSpec)) guaranteeRatesCard

/-- THE TIED CARD OF 'insolvencylaw18.GuaranteeDerivative'. -/
def guaranteeDerivativeCard : Claim7 := { stood := { row := guaranteeDerivativeRow, standIns := [], harness := (true, "be437278c60a98779884197f51975745da51c41a2227d6515a3f7d7c6acc018d"), looks := false }, kinds := [], alts := [], laidByText := true, laidKinds := [.data, .pinned], laidTests := true, laidLooks := .later }
def GuaranteeDerivativeCardSaid : Prop := Claim7.holds Tryd.pinned (.plain (OpenSpec.ofChange guaranteeDerivativeSpec)) guaranteeDerivativeCard

/-- THE TIED CARD OF 'insolvencylaw18.GuaranteeBalance'. -/
def guaranteeBalanceCard : Claim7 := { stood := { row := guaranteeBalanceRow, standIns := [], harness := (true, "be437278c60a98779884197f51975745da51c41a2227d6515a3f7d7c6acc018d"), looks := false }, kinds := [], alts := [], laidByText := true, laidKinds := [.data, .pinned], laidTests := true, laidLooks := .later }
def GuaranteeBalanceCardSaid : Prop := Claim7.holds Tryd.pinned (.plain (OpenSpec.ofChange guaranteeBalanceSpec)) guaranteeBalanceCard

/-- THE TIED CARD OF 'insolvencylaw22.DisputeBounds'. -/
def disputeBoundsCard : Claim7 := { stood := { row := disputeBoundsRow, standIns := [], harness := (true, "be437278c60a98779884197f51975745da51c41a2227d6515a3f7d7c6acc018d"), looks := false }, kinds := [], alts := [], laidByText := true, laidKinds := [.data, .pinned], laidTests := true, laidLooks := .later }
def DisputeBoundsCardSaid : Prop := Claim7.holds Tryd.pinned (.plain (OpenSpec.ofChange disputeBoundsSpec)) disputeBoundsCard

/-- THE SECOND FORM's CARD OF 'insolvencylaw18.GuaranteeLast'. -/
def guaranteeLastUptoCard : Claim7 := { stood := { row := guaranteeLastUptoRow, standIns := [], harness := (true, "be437278c60a98779884197f51975745da51c41a2227d6515a3f7d7c6acc018d"), looks := false }, kinds := [], alts := [], laidByText := true, laidKinds := [.data, .pinned], laidTests := true, laidLooks := .later }
def GuaranteeLastUptoCardSaid : Prop := Claim7.holds Tryd.pinned (.plain (OpenSpec.upto guaranteeLastSpec)) guaranteeLastUptoCard

/-- THE SECOND FORM's CARD OF 'insolvencylaw18.GuaranteeRefunds'. -/
def guaranteeRefundsUptoCard : Claim7 := { stood := { row := guaranteeRefundsUptoRow, standIns := [], harness := (true, "be437278c60a98779884197f51975745da51c41a2227d6515a3f7d7c6acc018d"), looks := false }, kinds := [], alts := [], laidByText := true, laidKinds := [.data, .pinned], laidTests := true, laidLooks := .later }
def GuaranteeRefundsUptoCardSaid : Prop := Claim7.holds Tryd.pinned (.plain (OpenSpec.upto guaranteeRefundsSpec)) guaranteeRefundsUptoCard

/-- THE SECOND FORM's CARD OF 'insolvencylaw18.GuaranteeGrows'. -/
def guaranteeGrowsUptoCard : Claim7 := { stood := { row := guaranteeGrowsUptoRow, standIns := [], harness := (true, "be437278c60a98779884197f51975745da51c41a2227d6515a3f7d7c6acc018d"), looks := false }, kinds := [], alts := [], laidByText := true, laidKinds := [.data, .pinned], laidTests := true, laidLooks := .later }
def GuaranteeGrowsUptoCardSaid : Prop := Claim7.holds Tryd.pinned (.plain (OpenSpec.upto guaranteeGrowsSpec)) guaranteeGrowsUptoCard

/-- THE SECOND FORM's CARD OF 'insolvencylaw18.GuaranteeRates'. -/
def guaranteeRatesUptoCard : Claim7 := { stood := { row := guaranteeRatesUptoRow, standIns := [], harness := (true, "be437278c60a98779884197f51975745da51c41a2227d6515a3f7d7c6acc018d"), looks := false }, kinds := [], alts := [], laidByText := true, laidKinds := [.data, .pinned], laidTests := true, laidLooks := .later }
def GuaranteeRatesUptoCardSaid : Prop := Claim7.holds Tryd.pinned (.plain (OpenSpec.upto guaranteeRatesSpec)) guaranteeRatesUptoCard

/-- THE SECOND FORM's CARD OF 'insolvencylaw18.GuaranteeDerivative'. -/
def guaranteeDerivativeUptoCard : Claim7 := { stood := { row := guaranteeDerivativeUptoRow, standIns := [], harness := (true, "be437278c60a98779884197f51975745da51c41a2227d6515a3f7d7c6acc018d"), looks := false }, kinds := [], alts := [], laidByText := true, laidKinds := [.data, .pinned], laidTests := true, laidLooks := .later }
def GuaranteeDerivativeUptoCardSaid : Prop := Claim7.holds Tryd.pinned (.plain (OpenSpec.upto guaranteeDerivativeSpec)) guaranteeDerivativeUptoCard

/-- THE SECOND FORM's CARD OF 'insolvencylaw18.GuaranteeBalance'. -/
def guaranteeBalanceUptoCard : Claim7 := { stood := { row := guaranteeBalanceUptoRow, standIns := [], harness := (true, "be437278c60a98779884197f51975745da51c41a2227d6515a3f7d7c6acc018d"), looks := false }, kinds := [], alts := [], laidByText := true, laidKinds := [.data, .pinned], laidTests := true, laidLooks := .later }
def GuaranteeBalanceUptoCardSaid : Prop := Claim7.holds Tryd.pinned (.plain (OpenSpec.upto guaranteeBalanceSpec)) guaranteeBalanceUptoCard

/-- THE SECOND FORM's CARD OF 'insolvencylaw22.DisputeBounds'. -/
def disputeBoundsUptoCard : Claim7 := { stood := { row := disputeBoundsUptoRow, standIns := [], harness := (true, "be437278c60a98779884197f51975745da51c41a2227d6515a3f7d7c6acc018d"), looks := false }, kinds := [], alts := [], laidByText := true, laidKinds := [.data, .pinned], laidTests := true, laidLooks := .later }
def DisputeBoundsUptoCardSaid : Prop := Claim7.holds Tryd.pinned (.plain (OpenSpec.upto disputeBoundsSpec)) disputeBoundsUptoCard
end Rows
end Go.Proofs.YtgmedcncbpdimaaDoor
