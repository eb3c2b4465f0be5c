/-
  DERIVED. GIVEN WITH THE SEED: THE CARDS: each row of YtokmkopihhnggaaGreatDoorRows.lean that lists a variable, with what it lists TIED to the program's text (the seventh form; the later family's looks); each row that meets fmt, with fmt's text TOLD by the authors' own Lean function (tested against real Go, not proved from fmt's source: count such statements apart). THE CARD IS WHAT COUNTS. Prove the row's statement (the work); the ties are given (YtokmkopihhnggaaGreatDoorTie.lean); close each card by the builder's one call (the guide's Derived/Test/ToyasCard.lean, 'card_holds'). Laid BY PROGRAM, IN A SANDBOX (cutbox-door.mjs). By AI agents, Wed Nov 11 2026. No macro, syntax, notation, axiom, sorry.
-/
import Derived.Test.YtokmkopihhnggaaGreatDoorRows
import GoSem.ClaimSeven
namespace Go.Proofs.YtokmkopihhnggaaGreatDoor
namespace Rows

/-- THE TIED CARD OF 'insolvencylaw18.GuaranteeBroken'. -/
def guaranteeBrokenCard : Claim7 := { stood := { row := guaranteeBrokenRow, standIns := [], harness := (true, "cd02f95ec96449ab057957b4b9502338535bb3f10afe2539d89c32898751daa6"), looks := false }, kinds := [], alts := [], laidByText := true, laidKinds := [.data, .pinned], laidTests := true, laidLooks := .later }
def GuaranteeBrokenCardSaid : Prop := Claim7.holds Tryz.pinned (.plain (OpenSpec.ofChange guaranteeBrokenSpec)) guaranteeBrokenCard

/-- THE TIED CARD OF 'insolvencylaw22.DisputeApply'. -/
def disputeApplyCard : Claim7 := { stood := { row := disputeApplyRow, standIns := [], harness := (true, "cd02f95ec96449ab057957b4b9502338535bb3f10afe2539d89c32898751daa6"), looks := false }, kinds := [], alts := [], laidByText := true, laidKinds := [.data, .pinned], laidTests := true, laidLooks := .later }
def DisputeApplyCardSaid : Prop := Claim7.holds Tryz.pinned (.plain (OpenSpec.ofChange disputeApplySpec)) disputeApplyCard

/-- THE TIED CARD OF 'insolvencylaw22.DisputeDecide'. -/
def disputeDecideCard : Claim7 := { stood := { row := disputeDecideRow, standIns := [], harness := (true, "cd02f95ec96449ab057957b4b9502338535bb3f10afe2539d89c32898751daa6"), looks := false }, kinds := [], alts := [], laidByText := true, laidKinds := [.data, .pinned], laidTests := true, laidLooks := .later }
def DisputeDecideCardSaid : Prop := Claim7.holds Tryz.pinned (.plain (OpenSpec.ofChange disputeDecideSpec)) disputeDecideCard

/-- THE TIED CARD OF 'insolvencylaw17.WaterfallMany'. -/
def waterfallManyCard : Claim7 := { stood := { row := waterfallManyRow, standIns := [], harness := (true, "cd02f95ec96449ab057957b4b9502338535bb3f10afe2539d89c32898751daa6"), looks := false }, kinds := [], alts := [], laidByText := true, laidKinds := [.data, .pinned], laidTests := true, laidLooks := .later }
def WaterfallManyCardSaid : Prop := Claim7.holds Tryz.pinned (.plain (OpenSpec.ofChange waterfallManySpec)) waterfallManyCard

/-- THE TIED CARD OF 'insolvencylaw17.WaterfallGrows'. -/
def waterfallGrowsCard : Claim7 := { stood := { row := waterfallGrowsRow, standIns := [], harness := (true, "cd02f95ec96449ab057957b4b9502338535bb3f10afe2539d89c32898751daa6"), looks := false }, kinds := [], alts := [], laidByText := true, laidKinds := [.data, .pinned], laidTests := true, laidLooks := .later }
def WaterfallGrowsCardSaid : Prop := Claim7.holds Tryz.pinned (.plain (OpenSpec.ofChange waterfallGrowsSpec)) waterfallGrowsCard

/-- THE TIED CARD OF 'insolvencylaw17.WaterfallLinear'. -/
def waterfallLinearCard : Claim7 := { stood := { row := waterfallLinearRow, standIns := [], harness := (true, "cd02f95ec96449ab057957b4b9502338535bb3f10afe2539d89c32898751daa6"), looks := false }, kinds := [], alts := [], laidByText := true, laidKinds := [.data, .pinned], laidTests := true, laidLooks := .later }
def WaterfallLinearCardSaid : Prop := Claim7.holds Tryz.pinned (.plain (OpenSpec.ofChange waterfallLinearSpec)) waterfallLinearCard

/-- THE TIED CARD OF 'insolvencylaw17.WaterfallKink'. -/
def waterfallKinkCard : Claim7 := { stood := { row := waterfallKinkRow, standIns := [], harness := (true, "cd02f95ec96449ab057957b4b9502338535bb3f10afe2539d89c32898751daa6"), looks := false }, kinds := [], alts := [], laidByText := true, laidKinds := [.data, .pinned], laidTests := true, laidLooks := .later }
def WaterfallKinkCardSaid : Prop := Claim7.holds Tryz.pinned (.plain (OpenSpec.ofChange waterfallKinkSpec)) waterfallKinkCard

/-- THE TIED CARD OF 'insolvencylaw17.WaterfallRaw'. -/
def waterfallRawCard : Claim7 := { stood := { row := waterfallRawRow, standIns := [], harness := (true, "cd02f95ec96449ab057957b4b9502338535bb3f10afe2539d89c32898751daa6"), looks := false }, kinds := [], alts := [], laidByText := true, laidKinds := [.data, .pinned], laidTests := true, laidLooks := .later }
def WaterfallRawCardSaid : Prop := Claim7.holds Tryz.pinned (.plain (OpenSpec.ofChange waterfallRawSpec)) waterfallRawCard

/-- THE TIED CARD OF 'insolvencylaw17.WaterfallBuilt'. -/
def waterfallBuiltCard : Claim7 := { stood := { row := waterfallBuiltRow, standIns := [], harness := (true, "cd02f95ec96449ab057957b4b9502338535bb3f10afe2539d89c32898751daa6"), looks := false }, kinds := [], alts := [], laidByText := true, laidKinds := [.data, .pinned], laidTests := true, laidLooks := .later }
def WaterfallBuiltCardSaid : Prop := Claim7.holds Tryz.pinned (.plain (OpenSpec.ofChange waterfallBuiltSpec)) waterfallBuiltCard

/-- THE SECOND FORM's CARD OF 'insolvencylaw18.GuaranteeBroken'. -/
def guaranteeBrokenUptoCard : Claim7 := { stood := { row := guaranteeBrokenUptoRow, standIns := [], harness := (true, "cd02f95ec96449ab057957b4b9502338535bb3f10afe2539d89c32898751daa6"), looks := false }, kinds := [], alts := [], laidByText := true, laidKinds := [.data, .pinned], laidTests := true, laidLooks := .later }
def GuaranteeBrokenUptoCardSaid : Prop := Claim7.holds Tryz.pinned (.plain (OpenSpec.upto guaranteeBrokenSpec)) guaranteeBrokenUptoCard

/-- THE SECOND FORM's CARD OF 'insolvencylaw22.DisputeApply'. -/
def disputeApplyUptoCard : Claim7 := { stood := { row := disputeApplyUptoRow, standIns := [], harness := (true, "cd02f95ec96449ab057957b4b9502338535bb3f10afe2539d89c32898751daa6"), looks := false }, kinds := [], alts := [], laidByText := true, laidKinds := [.data, .pinned], laidTests := true, laidLooks := .later }
def DisputeApplyUptoCardSaid : Prop := Claim7.holds Tryz.pinned (.plain (OpenSpec.upto disputeApplySpec)) disputeApplyUptoCard

/-- THE SECOND FORM's CARD OF 'insolvencylaw22.DisputeDecide'. -/
def disputeDecideUptoCard : Claim7 := { stood := { row := disputeDecideUptoRow, standIns := [], harness := (true, "cd02f95ec96449ab057957b4b9502338535bb3f10afe2539d89c32898751daa6"), looks := false }, kinds := [], alts := [], laidByText := true, laidKinds := [.data, .pinned], laidTests := true, laidLooks := .later }
def DisputeDecideUptoCardSaid : Prop := Claim7.holds Tryz.pinned (.plain (OpenSpec.upto disputeDecideSpec)) disputeDecideUptoCard

/-- THE SECOND FORM's CARD OF 'insolvencylaw17.WaterfallMany'. -/
def waterfallManyUptoCard : Claim7 := { stood := { row := waterfallManyUptoRow, standIns := [], harness := (true, "cd02f95ec96449ab057957b4b9502338535bb3f10afe2539d89c32898751daa6"), looks := false }, kinds := [], alts := [], laidByText := true, laidKinds := [.data, .pinned], laidTests := true, laidLooks := .later }
def WaterfallManyUptoCardSaid : Prop := Claim7.holds Tryz.pinned (.plain (OpenSpec.upto waterfallManySpec)) waterfallManyUptoCard

/-- THE SECOND FORM's CARD OF 'insolvencylaw17.WaterfallGrows'. -/
def waterfallGrowsUptoCard : Claim7 := { stood := { row := waterfallGrowsUptoRow, standIns := [], harness := (true, "cd02f95ec96449ab057957b4b9502338535bb3f10afe2539d89c32898751daa6"), looks := false }, kinds := [], alts := [], laidByText := true, laidKinds := [.data, .pinned], laidTests := true, laidLooks := .later }
def WaterfallGrowsUptoCardSaid : Prop := Claim7.holds Tryz.pinned (.plain (OpenSpec.upto waterfallGrowsSpec)) waterfallGrowsUptoCard

/-- THE SECOND FORM's CARD OF 'insolvencylaw17.WaterfallLinear'. -/
def waterfallLinearUptoCard : Claim7 := { stood := { row := waterfallLinearUptoRow, standIns := [], harness := (true, "cd02f95ec96449ab057957b4b9502338535bb3f10afe2539d89c32898751daa6"), looks := false }, kinds := [], alts := [], laidByText := true, laidKinds := [.data, .pinned], laidTests := true, laidLooks := .later }
def WaterfallLinearUptoCardSaid : Prop := Claim7.holds Tryz.pinned (.plain (OpenSpec.upto waterfallLinearSpec)) waterfallLinearUptoCard

/-- THE SECOND FORM's CARD OF 'insolvencylaw17.WaterfallKink'. -/
def waterfallKinkUptoCard : Claim7 := { stood := { row := waterfallKinkUptoRow, standIns := [], harness := (true, "cd02f95ec96449ab057957b4b9502338535bb3f10afe2539d89c32898751daa6"), looks := false }, kinds := [], alts := [], laidByText := true, laidKinds := [.data, .pinned], laidTests := true, laidLooks := .later }
def WaterfallKinkUptoCardSaid : Prop := Claim7.holds Tryz.pinned (.plain (OpenSpec.upto waterfallKinkSpec)) waterfallKinkUptoCard

/-- THE SECOND FORM's CARD OF 'insolvencylaw17.WaterfallRaw'. -/
def waterfallRawUptoCard : Claim7 := { stood := { row := waterfallRawUptoRow, standIns := [], harness := (true, "cd02f95ec96449ab057957b4b9502338535bb3f10afe2539d89c32898751daa6"), looks := false }, kinds := [], alts := [], laidByText := true, laidKinds := [.data, .pinned], laidTests := true, laidLooks := .later }
def WaterfallRawUptoCardSaid : Prop := Claim7.holds Tryz.pinned (.plain (OpenSpec.upto waterfallRawSpec)) waterfallRawUptoCard

/-- THE SECOND FORM's CARD OF 'insolvencylaw17.WaterfallBuilt'. -/
def waterfallBuiltUptoCard : Claim7 := { stood := { row := waterfallBuiltUptoRow, standIns := [], harness := (true, "cd02f95ec96449ab057957b4b9502338535bb3f10afe2539d89c32898751daa6"), looks := false }, kinds := [], alts := [], laidByText := true, laidKinds := [.data, .pinned], laidTests := true, laidLooks := .later }
def WaterfallBuiltUptoCardSaid : Prop := Claim7.holds Tryz.pinned (.plain (OpenSpec.upto waterfallBuiltSpec)) waterfallBuiltUptoCard
end Rows
end Go.Proofs.YtokmkopihhnggaaGreatDoor
