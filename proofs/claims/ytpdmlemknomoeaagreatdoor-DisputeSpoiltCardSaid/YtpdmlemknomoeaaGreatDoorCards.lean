/-
  DERIVED. GIVEN WITH THE SEED: THE CARDS: each row of YtpdmlemknomoeaaGreatDoorRows.lean that lists a variable, with what it lists TIED to the program's text (the seventh form; the later family's looks); each row that meets fmt, with fmt's text TOLD by the authors' own Lean function (tested against real Go, not proved from fmt's source: count such statements apart). THE CARD IS WHAT COUNTS. Prove the row's statement (the work); the ties are given (YtpdmlemknomoeaaGreatDoorTie.lean); close each card by the builder's one call (the guide's Derived/Test/ToyasCard.lean, 'card_holds'). Laid BY PROGRAM, IN A SANDBOX (cutbox-door.mjs). By AI agents, Wed Nov 11 2026. No macro, syntax, notation, axiom, sorry.
-/
import Derived.Test.YtpdmlemknomoeaaGreatDoorRows
import GoSem.ClaimSeven
namespace Go.Proofs.YtpdmlemknomoeaaGreatDoor
namespace Rows

/-- THE TIED CARD OF 'insolvencylaw22.DisputeSpoilt'. -/
def disputeSpoiltCard : Claim7 := { stood := { row := disputeSpoiltRow, standIns := [], harness := (true, "2b97449f2ac58bb8d59ddc909e92522d68b549d1c8801a3649006aab0200c59f"), looks := false }, kinds := [], alts := [], laidByText := true, laidKinds := [.data, .pinned], laidTests := true, laidLooks := .later }
def DisputeSpoiltCardSaid : Prop := Claim7.holds Tryz.pinned (.plain (OpenSpec.ofChange disputeSpoiltSpec)) disputeSpoiltCard

/-- THE TIED CARD OF 'insolvencylaw29.ClassCheck'. -/
def classCheckCard : Claim7 := { stood := { row := classCheckRow, standIns := [], harness := (true, "2b97449f2ac58bb8d59ddc909e92522d68b549d1c8801a3649006aab0200c59f"), looks := false }, kinds := [], alts := [], laidByText := true, laidKinds := [.data, .pinned], laidTests := true, laidLooks := .later }
def ClassCheckCardSaid : Prop := Claim7.holds Tryz.pinned (.plain (OpenSpec.ofChange classCheckSpec)) classCheckCard

/-- THE TIED CARD OF 'insolvencylaw18.GuaranteeBroken'. -/
def guaranteeBrokenCard : Claim7 := { stood := { row := guaranteeBrokenRow, standIns := [], harness := (true, "2b97449f2ac58bb8d59ddc909e92522d68b549d1c8801a3649006aab0200c59f"), looks := false }, kinds := [], alts := [], laidByText := true, laidKinds := [.data, .pinned], laidTests := true, laidLooks := .later }
def GuaranteeBrokenCardSaid : Prop := Claim7.holds Tryz.pinned (.plain (OpenSpec.ofChange guaranteeBrokenSpec)) guaranteeBrokenCard

/-- THE TIED CARD OF 'insolvencylaw22.DisputeApply'. -/
def disputeApplyCard : Claim7 := { stood := { row := disputeApplyRow, standIns := [], harness := (true, "2b97449f2ac58bb8d59ddc909e92522d68b549d1c8801a3649006aab0200c59f"), looks := false }, kinds := [], alts := [], laidByText := true, laidKinds := [.data, .pinned], laidTests := true, laidLooks := .later }
def DisputeApplyCardSaid : Prop := Claim7.holds Tryz.pinned (.plain (OpenSpec.ofChange disputeApplySpec)) disputeApplyCard

/-- THE TIED CARD OF 'insolvencylaw22.DisputeDecide'. -/
def disputeDecideCard : Claim7 := { stood := { row := disputeDecideRow, standIns := [], harness := (true, "2b97449f2ac58bb8d59ddc909e92522d68b549d1c8801a3649006aab0200c59f"), looks := false }, kinds := [], alts := [], laidByText := true, laidKinds := [.data, .pinned], laidTests := true, laidLooks := .later }
def DisputeDecideCardSaid : Prop := Claim7.holds Tryz.pinned (.plain (OpenSpec.ofChange disputeDecideSpec)) disputeDecideCard

/-- THE TIED CARD OF 'insolvencylaw22.DisputeOrder'. -/
def disputeOrderCard : Claim7 := { stood := { row := disputeOrderRow, standIns := [], harness := (true, "2b97449f2ac58bb8d59ddc909e92522d68b549d1c8801a3649006aab0200c59f"), looks := false }, kinds := [], alts := [], laidByText := true, laidKinds := [.data, .pinned], laidTests := true, laidLooks := .later }
def DisputeOrderCardSaid : Prop := Claim7.holds Tryz.pinned (.plain (OpenSpec.ofChange disputeOrderSpec)) disputeOrderCard

/-- THE SECOND FORM's CARD OF 'insolvencylaw22.DisputeSpoilt'. -/
def disputeSpoiltUptoCard : Claim7 := { stood := { row := disputeSpoiltUptoRow, standIns := [], harness := (true, "2b97449f2ac58bb8d59ddc909e92522d68b549d1c8801a3649006aab0200c59f"), looks := false }, kinds := [], alts := [], laidByText := true, laidKinds := [.data, .pinned], laidTests := true, laidLooks := .later }
def DisputeSpoiltUptoCardSaid : Prop := Claim7.holds Tryz.pinned (.plain (OpenSpec.upto disputeSpoiltSpec)) disputeSpoiltUptoCard

/-- THE SECOND FORM's CARD OF 'insolvencylaw29.ClassCheck'. -/
def classCheckUptoCard : Claim7 := { stood := { row := classCheckUptoRow, standIns := [], harness := (true, "2b97449f2ac58bb8d59ddc909e92522d68b549d1c8801a3649006aab0200c59f"), looks := false }, kinds := [], alts := [], laidByText := true, laidKinds := [.data, .pinned], laidTests := true, laidLooks := .later }
def ClassCheckUptoCardSaid : Prop := Claim7.holds Tryz.pinned (.plain (OpenSpec.upto classCheckSpec)) classCheckUptoCard

/-- THE SECOND FORM's CARD OF 'insolvencylaw18.GuaranteeBroken'. -/
def guaranteeBrokenUptoCard : Claim7 := { stood := { row := guaranteeBrokenUptoRow, standIns := [], harness := (true, "2b97449f2ac58bb8d59ddc909e92522d68b549d1c8801a3649006aab0200c59f"), looks := false }, kinds := [], alts := [], laidByText := true, laidKinds := [.data, .pinned], laidTests := true, laidLooks := .later }
def GuaranteeBrokenUptoCardSaid : Prop := Claim7.holds Tryz.pinned (.plain (OpenSpec.upto guaranteeBrokenSpec)) guaranteeBrokenUptoCard

/-- THE SECOND FORM's CARD OF 'insolvencylaw22.DisputeApply'. -/
def disputeApplyUptoCard : Claim7 := { stood := { row := disputeApplyUptoRow, standIns := [], harness := (true, "2b97449f2ac58bb8d59ddc909e92522d68b549d1c8801a3649006aab0200c59f"), looks := false }, kinds := [], alts := [], laidByText := true, laidKinds := [.data, .pinned], laidTests := true, laidLooks := .later }
def DisputeApplyUptoCardSaid : Prop := Claim7.holds Tryz.pinned (.plain (OpenSpec.upto disputeApplySpec)) disputeApplyUptoCard

/-- THE SECOND FORM's CARD OF 'insolvencylaw22.DisputeDecide'. -/
def disputeDecideUptoCard : Claim7 := { stood := { row := disputeDecideUptoRow, standIns := [], harness := (true, "2b97449f2ac58bb8d59ddc909e92522d68b549d1c8801a3649006aab0200c59f"), looks := false }, kinds := [], alts := [], laidByText := true, laidKinds := [.data, .pinned], laidTests := true, laidLooks := .later }
def DisputeDecideUptoCardSaid : Prop := Claim7.holds Tryz.pinned (.plain (OpenSpec.upto disputeDecideSpec)) disputeDecideUptoCard

/-- THE SECOND FORM's CARD OF 'insolvencylaw22.DisputeOrder'. -/
def disputeOrderUptoCard : Claim7 := { stood := { row := disputeOrderUptoRow, standIns := [], harness := (true, "2b97449f2ac58bb8d59ddc909e92522d68b549d1c8801a3649006aab0200c59f"), looks := false }, kinds := [], alts := [], laidByText := true, laidKinds := [.data, .pinned], laidTests := true, laidLooks := .later }
def DisputeOrderUptoCardSaid : Prop := Claim7.holds Tryz.pinned (.plain (OpenSpec.upto disputeOrderSpec)) disputeOrderUptoCard
end Rows
end Go.Proofs.YtpdmlemknomoeaaGreatDoor
