/-
  DERIVED. GIVEN WITH THE SEED: THE CARDS: each row of YtcgpghifhehlhaaGreatDoorRows.lean that lists a variable, with what it lists TIED to the program's text (the seventh form; the later family's looks); each row that meets fmt, with fmt's text TOLD by the authors' own Lean function (tested against real Go, not proved from fmt's source: count such statements apart). THE CARD IS WHAT COUNTS. Prove the row's statement (the work); the ties are given (YtcgpghifhehlhaaGreatDoorTie.lean); close each card by the builder's one call (the guide's Derived/Test/ToyasCard.lean, 'card_holds'). Laid BY PROGRAM, IN A SANDBOX (cutbox-door.mjs). By AI agents, Wed Nov 11 2026. No macro, syntax, notation, axiom, sorry.
-/
import Derived.Test.YtcgpghifhehlhaaGreatDoorRows
import GoSem.ClaimSeven
namespace Go.Proofs.YtcgpghifhehlhaaGreatDoor
namespace Rows

/-- THE TIED CARD OF 'insolvencylaw18.GuaranteeBroken'. -/
def guaranteeBrokenCard : Claim7 := { stood := { row := guaranteeBrokenRow, standIns := [], harness := (true, "65a4925fd02b14b1bdf585289099fb67ffe645fc9133f278f7eda1504ae06dcb"), looks := false }, kinds := [], alts := [], laidByText := true, laidKinds := [.data, .pinned], laidTests := true, laidLooks := .later }
def GuaranteeBrokenCardSaid : Prop := Claim7.holds Tryz.pinned (.plain (OpenSpec.ofChange guaranteeBrokenSpec)) guaranteeBrokenCard

/-- THE TIED CARD OF 'insolvencylaw28.ClawbackRevive'. -/
def clawbackReviveCard : Claim7 := { stood := { row := clawbackReviveRow, standIns := [], harness := (true, "65a4925fd02b14b1bdf585289099fb67ffe645fc9133f278f7eda1504ae06dcb"), looks := false }, kinds := [], alts := [], laidByText := true, laidKinds := [.data, .pinned], laidTests := true, laidLooks := .later }
def ClawbackReviveCardSaid : Prop := Claim7.holds Tryz.pinned (.plain (OpenSpec.ofChange clawbackReviveSpec)) clawbackReviveCard

/-- THE TIED CARD OF 'insolvencylaw28.ClawbackLong'. -/
def clawbackLongCard : Claim7 := { stood := { row := clawbackLongRow, standIns := [], harness := (true, "65a4925fd02b14b1bdf585289099fb67ffe645fc9133f278f7eda1504ae06dcb"), looks := false }, kinds := [], alts := [], laidByText := true, laidKinds := [.data, .pinned], laidTests := true, laidLooks := .later }
def ClawbackLongCardSaid : Prop := Claim7.holds Tryz.pinned (.plain (OpenSpec.ofChange clawbackLongSpec)) clawbackLongCard

/-- THE TIED CARD OF 'insolvencylaw28.ClawbackReturns'. -/
def clawbackReturnsCard : Claim7 := { stood := { row := clawbackReturnsRow, standIns := [], harness := (true, "65a4925fd02b14b1bdf585289099fb67ffe645fc9133f278f7eda1504ae06dcb"), looks := false }, kinds := [], alts := [], laidByText := true, laidKinds := [.data, .pinned], laidTests := true, laidLooks := .later }
def ClawbackReturnsCardSaid : Prop := Claim7.holds Tryz.pinned (.plain (OpenSpec.ofChange clawbackReturnsSpec)) clawbackReturnsCard

/-- THE TIED CARD OF 'insolvencylaw28.ClawbackMerge'. -/
def clawbackMergeCard : Claim7 := { stood := { row := clawbackMergeRow, standIns := [], harness := (true, "65a4925fd02b14b1bdf585289099fb67ffe645fc9133f278f7eda1504ae06dcb"), looks := false }, kinds := [], alts := [], laidByText := true, laidKinds := [.data, .pinned], laidTests := true, laidLooks := .later }
def ClawbackMergeCardSaid : Prop := Claim7.holds Tryz.pinned (.plain (OpenSpec.ofChange clawbackMergeSpec)) clawbackMergeCard

/-- THE TIED CARD OF 'insolvencylaw28.ClawbackMany'. -/
def clawbackManyCard : Claim7 := { stood := { row := clawbackManyRow, standIns := [], harness := (true, "65a4925fd02b14b1bdf585289099fb67ffe645fc9133f278f7eda1504ae06dcb"), looks := false }, kinds := [], alts := [], laidByText := true, laidKinds := [.data, .pinned], laidTests := true, laidLooks := .later }
def ClawbackManyCardSaid : Prop := Claim7.holds Tryz.pinned (.plain (OpenSpec.ofChange clawbackManySpec)) clawbackManyCard

/-- THE TIED CARD OF 'insolvencylaw28.ClawbackOrder'. -/
def clawbackOrderCard : Claim7 := { stood := { row := clawbackOrderRow, standIns := [], harness := (true, "65a4925fd02b14b1bdf585289099fb67ffe645fc9133f278f7eda1504ae06dcb"), looks := false }, kinds := [], alts := [], laidByText := true, laidKinds := [.data, .pinned], laidTests := true, laidLooks := .later }
def ClawbackOrderCardSaid : Prop := Claim7.holds Tryz.pinned (.plain (OpenSpec.ofChange clawbackOrderSpec)) clawbackOrderCard

/-- THE SECOND FORM's CARD OF 'insolvencylaw18.GuaranteeBroken'. -/
def guaranteeBrokenUptoCard : Claim7 := { stood := { row := guaranteeBrokenUptoRow, standIns := [], harness := (true, "65a4925fd02b14b1bdf585289099fb67ffe645fc9133f278f7eda1504ae06dcb"), looks := false }, kinds := [], alts := [], laidByText := true, laidKinds := [.data, .pinned], laidTests := true, laidLooks := .later }
def GuaranteeBrokenUptoCardSaid : Prop := Claim7.holds Tryz.pinned (.plain (OpenSpec.upto guaranteeBrokenSpec)) guaranteeBrokenUptoCard

/-- THE SECOND FORM's CARD OF 'insolvencylaw28.ClawbackRevive'. -/
def clawbackReviveUptoCard : Claim7 := { stood := { row := clawbackReviveUptoRow, standIns := [], harness := (true, "65a4925fd02b14b1bdf585289099fb67ffe645fc9133f278f7eda1504ae06dcb"), looks := false }, kinds := [], alts := [], laidByText := true, laidKinds := [.data, .pinned], laidTests := true, laidLooks := .later }
def ClawbackReviveUptoCardSaid : Prop := Claim7.holds Tryz.pinned (.plain (OpenSpec.upto clawbackReviveSpec)) clawbackReviveUptoCard

/-- THE SECOND FORM's CARD OF 'insolvencylaw28.ClawbackLong'. -/
def clawbackLongUptoCard : Claim7 := { stood := { row := clawbackLongUptoRow, standIns := [], harness := (true, "65a4925fd02b14b1bdf585289099fb67ffe645fc9133f278f7eda1504ae06dcb"), looks := false }, kinds := [], alts := [], laidByText := true, laidKinds := [.data, .pinned], laidTests := true, laidLooks := .later }
def ClawbackLongUptoCardSaid : Prop := Claim7.holds Tryz.pinned (.plain (OpenSpec.upto clawbackLongSpec)) clawbackLongUptoCard

/-- THE SECOND FORM's CARD OF 'insolvencylaw28.ClawbackReturns'. -/
def clawbackReturnsUptoCard : Claim7 := { stood := { row := clawbackReturnsUptoRow, standIns := [], harness := (true, "65a4925fd02b14b1bdf585289099fb67ffe645fc9133f278f7eda1504ae06dcb"), looks := false }, kinds := [], alts := [], laidByText := true, laidKinds := [.data, .pinned], laidTests := true, laidLooks := .later }
def ClawbackReturnsUptoCardSaid : Prop := Claim7.holds Tryz.pinned (.plain (OpenSpec.upto clawbackReturnsSpec)) clawbackReturnsUptoCard

/-- THE SECOND FORM's CARD OF 'insolvencylaw28.ClawbackMerge'. -/
def clawbackMergeUptoCard : Claim7 := { stood := { row := clawbackMergeUptoRow, standIns := [], harness := (true, "65a4925fd02b14b1bdf585289099fb67ffe645fc9133f278f7eda1504ae06dcb"), looks := false }, kinds := [], alts := [], laidByText := true, laidKinds := [.data, .pinned], laidTests := true, laidLooks := .later }
def ClawbackMergeUptoCardSaid : Prop := Claim7.holds Tryz.pinned (.plain (OpenSpec.upto clawbackMergeSpec)) clawbackMergeUptoCard

/-- THE SECOND FORM's CARD OF 'insolvencylaw28.ClawbackMany'. -/
def clawbackManyUptoCard : Claim7 := { stood := { row := clawbackManyUptoRow, standIns := [], harness := (true, "65a4925fd02b14b1bdf585289099fb67ffe645fc9133f278f7eda1504ae06dcb"), looks := false }, kinds := [], alts := [], laidByText := true, laidKinds := [.data, .pinned], laidTests := true, laidLooks := .later }
def ClawbackManyUptoCardSaid : Prop := Claim7.holds Tryz.pinned (.plain (OpenSpec.upto clawbackManySpec)) clawbackManyUptoCard

/-- THE SECOND FORM's CARD OF 'insolvencylaw28.ClawbackOrder'. -/
def clawbackOrderUptoCard : Claim7 := { stood := { row := clawbackOrderUptoRow, standIns := [], harness := (true, "65a4925fd02b14b1bdf585289099fb67ffe645fc9133f278f7eda1504ae06dcb"), looks := false }, kinds := [], alts := [], laidByText := true, laidKinds := [.data, .pinned], laidTests := true, laidLooks := .later }
def ClawbackOrderUptoCardSaid : Prop := Claim7.holds Tryz.pinned (.plain (OpenSpec.upto clawbackOrderSpec)) clawbackOrderUptoCard
end Rows
end Go.Proofs.YtcgpghifhehlhaaGreatDoor
