/-
  DERIVED. GIVEN WITH THE SEED: THE CARDS: each row of YtinaeglgfomlaaaGreatDoorRows.lean that lists a variable, with what it lists TIED to the program's text (the seventh form; the later family's looks); each row that meets fmt, with fmt's text TOLD by the authors' own Lean function (tested against real Go, not proved from fmt's source: count such statements apart). THE CARD IS WHAT COUNTS. Prove the row's statement (the work); the ties are given (YtinaeglgfomlaaaGreatDoorTie.lean); close each card by the builder's one call (the guide's Derived/Test/ToyasCard.lean, 'card_holds'). Laid BY PROGRAM, IN A SANDBOX (cutbox-door.mjs). By AI agents, Wed Nov 11 2026. No macro, syntax, notation, axiom, sorry.
-/
import Derived.Test.YtinaeglgfomlaaaGreatDoorRows
import GoSem.ClaimSeven
namespace Go.Proofs.YtinaeglgfomlaaaGreatDoor
namespace Rows

/-- THE TIED CARD OF 'insolvencylaw18.GuaranteeBroken'. -/
def guaranteeBrokenCard : Claim7 := { stood := { row := guaranteeBrokenRow, standIns := [], harness := (true, "a922c94553385f33b0ef1e21595f254ce819de6b1ecde1912f8b049d6ce499ac"), looks := false }, kinds := [], alts := [], laidByText := true, laidKinds := [.data, .pinned], laidTests := true, laidLooks := .later }
def GuaranteeBrokenCardSaid : Prop := Claim7.holds Tryz.pinned (.plain (OpenSpec.ofChange guaranteeBrokenSpec)) guaranteeBrokenCard

/-- THE TIED CARD OF 'insolvencylaw22.DisputeApply'. -/
def disputeApplyCard : Claim7 := { stood := { row := disputeApplyRow, standIns := [], harness := (true, "a922c94553385f33b0ef1e21595f254ce819de6b1ecde1912f8b049d6ce499ac"), looks := false }, kinds := [], alts := [], laidByText := true, laidKinds := [.data, .pinned], laidTests := true, laidLooks := .later }
def DisputeApplyCardSaid : Prop := Claim7.holds Tryz.pinned (.plain (OpenSpec.ofChange disputeApplySpec)) disputeApplyCard

/-- THE TIED CARD OF 'insolvencylaw22.DisputeDecide'. -/
def disputeDecideCard : Claim7 := { stood := { row := disputeDecideRow, standIns := [], harness := (true, "a922c94553385f33b0ef1e21595f254ce819de6b1ecde1912f8b049d6ce499ac"), looks := false }, kinds := [], alts := [], laidByText := true, laidKinds := [.data, .pinned], laidTests := true, laidLooks := .later }
def DisputeDecideCardSaid : Prop := Claim7.holds Tryz.pinned (.plain (OpenSpec.ofChange disputeDecideSpec)) disputeDecideCard

/-- THE TIED CARD OF 'insolvencylaw22.DisputeOrder'. -/
def disputeOrderCard : Claim7 := { stood := { row := disputeOrderRow, standIns := [], harness := (true, "a922c94553385f33b0ef1e21595f254ce819de6b1ecde1912f8b049d6ce499ac"), looks := false }, kinds := [], alts := [], laidByText := true, laidKinds := [.data, .pinned], laidTests := true, laidLooks := .later }
def DisputeOrderCardSaid : Prop := Claim7.holds Tryz.pinned (.plain (OpenSpec.ofChange disputeOrderSpec)) disputeOrderCard

/-- THE TIED CARD OF 'insolvencylaw17.WaterfallCheck'. -/
def waterfallCheckCard : Claim7 := { stood := { row := waterfallCheckRow, standIns := [], harness := (true, "a922c94553385f33b0ef1e21595f254ce819de6b1ecde1912f8b049d6ce499ac"), looks := false }, kinds := [], alts := [], laidByText := true, laidKinds := [.data, .pinned], laidTests := true, laidLooks := .later }
def WaterfallCheckCardSaid : Prop := Claim7.holds Tryz.pinned (.plain (OpenSpec.ofChange waterfallCheckSpec)) waterfallCheckCard

/-- THE TIED CARD OF 'insolvencylaw17.WaterfallMany'. -/
def waterfallManyCard : Claim7 := { stood := { row := waterfallManyRow, standIns := [], harness := (true, "a922c94553385f33b0ef1e21595f254ce819de6b1ecde1912f8b049d6ce499ac"), looks := false }, kinds := [], alts := [], laidByText := true, laidKinds := [.data, .pinned], laidTests := true, laidLooks := .later }
def WaterfallManyCardSaid : Prop := Claim7.holds Tryz.pinned (.plain (OpenSpec.ofChange waterfallManySpec)) waterfallManyCard

/-- THE TIED CARD OF 'insolvencylaw17.WaterfallTiers'. -/
def waterfallTiersCard : Claim7 := { stood := { row := waterfallTiersRow, standIns := [], harness := (true, "a922c94553385f33b0ef1e21595f254ce819de6b1ecde1912f8b049d6ce499ac"), looks := false }, kinds := [], alts := [], laidByText := true, laidKinds := [.data, .pinned], laidTests := true, laidLooks := .later }
def WaterfallTiersCardSaid : Prop := Claim7.holds Tryz.pinned (.plain (OpenSpec.ofChange waterfallTiersSpec)) waterfallTiersCard

/-- THE TIED CARD OF 'insolvencylaw17.WaterfallPools'. -/
def waterfallPoolsCard : Claim7 := { stood := { row := waterfallPoolsRow, standIns := [], harness := (true, "a922c94553385f33b0ef1e21595f254ce819de6b1ecde1912f8b049d6ce499ac"), looks := false }, kinds := [], alts := [], laidByText := true, laidKinds := [.data, .pinned], laidTests := true, laidLooks := .later }
def WaterfallPoolsCardSaid : Prop := Claim7.holds Tryz.pinned (.plain (OpenSpec.ofChange waterfallPoolsSpec)) waterfallPoolsCard

/-- THE TIED CARD OF 'insolvencylaw17.WaterfallGrows'. -/
def waterfallGrowsCard : Claim7 := { stood := { row := waterfallGrowsRow, standIns := [], harness := (true, "a922c94553385f33b0ef1e21595f254ce819de6b1ecde1912f8b049d6ce499ac"), looks := false }, kinds := [], alts := [], laidByText := true, laidKinds := [.data, .pinned], laidTests := true, laidLooks := .later }
def WaterfallGrowsCardSaid : Prop := Claim7.holds Tryz.pinned (.plain (OpenSpec.ofChange waterfallGrowsSpec)) waterfallGrowsCard

/-- THE TIED CARD OF 'insolvencylaw17.WaterfallRanks'. -/
def waterfallRanksCard : Claim7 := { stood := { row := waterfallRanksRow, standIns := [], harness := (true, "a922c94553385f33b0ef1e21595f254ce819de6b1ecde1912f8b049d6ce499ac"), looks := false }, kinds := [], alts := [], laidByText := true, laidKinds := [.data, .pinned], laidTests := true, laidLooks := .later }
def WaterfallRanksCardSaid : Prop := Claim7.holds Tryz.pinned (.plain (OpenSpec.ofChange waterfallRanksSpec)) waterfallRanksCard

/-- THE SECOND FORM's CARD OF 'insolvencylaw18.GuaranteeBroken'. -/
def guaranteeBrokenUptoCard : Claim7 := { stood := { row := guaranteeBrokenUptoRow, standIns := [], harness := (true, "a922c94553385f33b0ef1e21595f254ce819de6b1ecde1912f8b049d6ce499ac"), looks := false }, kinds := [], alts := [], laidByText := true, laidKinds := [.data, .pinned], laidTests := true, laidLooks := .later }
def GuaranteeBrokenUptoCardSaid : Prop := Claim7.holds Tryz.pinned (.plain (OpenSpec.upto guaranteeBrokenSpec)) guaranteeBrokenUptoCard

/-- THE SECOND FORM's CARD OF 'insolvencylaw22.DisputeApply'. -/
def disputeApplyUptoCard : Claim7 := { stood := { row := disputeApplyUptoRow, standIns := [], harness := (true, "a922c94553385f33b0ef1e21595f254ce819de6b1ecde1912f8b049d6ce499ac"), looks := false }, kinds := [], alts := [], laidByText := true, laidKinds := [.data, .pinned], laidTests := true, laidLooks := .later }
def DisputeApplyUptoCardSaid : Prop := Claim7.holds Tryz.pinned (.plain (OpenSpec.upto disputeApplySpec)) disputeApplyUptoCard

/-- THE SECOND FORM's CARD OF 'insolvencylaw22.DisputeDecide'. -/
def disputeDecideUptoCard : Claim7 := { stood := { row := disputeDecideUptoRow, standIns := [], harness := (true, "a922c94553385f33b0ef1e21595f254ce819de6b1ecde1912f8b049d6ce499ac"), looks := false }, kinds := [], alts := [], laidByText := true, laidKinds := [.data, .pinned], laidTests := true, laidLooks := .later }
def DisputeDecideUptoCardSaid : Prop := Claim7.holds Tryz.pinned (.plain (OpenSpec.upto disputeDecideSpec)) disputeDecideUptoCard

/-- THE SECOND FORM's CARD OF 'insolvencylaw22.DisputeOrder'. -/
def disputeOrderUptoCard : Claim7 := { stood := { row := disputeOrderUptoRow, standIns := [], harness := (true, "a922c94553385f33b0ef1e21595f254ce819de6b1ecde1912f8b049d6ce499ac"), looks := false }, kinds := [], alts := [], laidByText := true, laidKinds := [.data, .pinned], laidTests := true, laidLooks := .later }
def DisputeOrderUptoCardSaid : Prop := Claim7.holds Tryz.pinned (.plain (OpenSpec.upto disputeOrderSpec)) disputeOrderUptoCard

/-- THE SECOND FORM's CARD OF 'insolvencylaw17.WaterfallCheck'. -/
def waterfallCheckUptoCard : Claim7 := { stood := { row := waterfallCheckUptoRow, standIns := [], harness := (true, "a922c94553385f33b0ef1e21595f254ce819de6b1ecde1912f8b049d6ce499ac"), looks := false }, kinds := [], alts := [], laidByText := true, laidKinds := [.data, .pinned], laidTests := true, laidLooks := .later }
def WaterfallCheckUptoCardSaid : Prop := Claim7.holds Tryz.pinned (.plain (OpenSpec.upto waterfallCheckSpec)) waterfallCheckUptoCard

/-- THE SECOND FORM's CARD OF 'insolvencylaw17.WaterfallMany'. -/
def waterfallManyUptoCard : Claim7 := { stood := { row := waterfallManyUptoRow, standIns := [], harness := (true, "a922c94553385f33b0ef1e21595f254ce819de6b1ecde1912f8b049d6ce499ac"), looks := false }, kinds := [], alts := [], laidByText := true, laidKinds := [.data, .pinned], laidTests := true, laidLooks := .later }
def WaterfallManyUptoCardSaid : Prop := Claim7.holds Tryz.pinned (.plain (OpenSpec.upto waterfallManySpec)) waterfallManyUptoCard

/-- THE SECOND FORM's CARD OF 'insolvencylaw17.WaterfallTiers'. -/
def waterfallTiersUptoCard : Claim7 := { stood := { row := waterfallTiersUptoRow, standIns := [], harness := (true, "a922c94553385f33b0ef1e21595f254ce819de6b1ecde1912f8b049d6ce499ac"), looks := false }, kinds := [], alts := [], laidByText := true, laidKinds := [.data, .pinned], laidTests := true, laidLooks := .later }
def WaterfallTiersUptoCardSaid : Prop := Claim7.holds Tryz.pinned (.plain (OpenSpec.upto waterfallTiersSpec)) waterfallTiersUptoCard

/-- THE SECOND FORM's CARD OF 'insolvencylaw17.WaterfallPools'. -/
def waterfallPoolsUptoCard : Claim7 := { stood := { row := waterfallPoolsUptoRow, standIns := [], harness := (true, "a922c94553385f33b0ef1e21595f254ce819de6b1ecde1912f8b049d6ce499ac"), looks := false }, kinds := [], alts := [], laidByText := true, laidKinds := [.data, .pinned], laidTests := true, laidLooks := .later }
def WaterfallPoolsUptoCardSaid : Prop := Claim7.holds Tryz.pinned (.plain (OpenSpec.upto waterfallPoolsSpec)) waterfallPoolsUptoCard

/-- THE SECOND FORM's CARD OF 'insolvencylaw17.WaterfallGrows'. -/
def waterfallGrowsUptoCard : Claim7 := { stood := { row := waterfallGrowsUptoRow, standIns := [], harness := (true, "a922c94553385f33b0ef1e21595f254ce819de6b1ecde1912f8b049d6ce499ac"), looks := false }, kinds := [], alts := [], laidByText := true, laidKinds := [.data, .pinned], laidTests := true, laidLooks := .later }
def WaterfallGrowsUptoCardSaid : Prop := Claim7.holds Tryz.pinned (.plain (OpenSpec.upto waterfallGrowsSpec)) waterfallGrowsUptoCard

/-- THE SECOND FORM's CARD OF 'insolvencylaw17.WaterfallRanks'. -/
def waterfallRanksUptoCard : Claim7 := { stood := { row := waterfallRanksUptoRow, standIns := [], harness := (true, "a922c94553385f33b0ef1e21595f254ce819de6b1ecde1912f8b049d6ce499ac"), looks := false }, kinds := [], alts := [], laidByText := true, laidKinds := [.data, .pinned], laidTests := true, laidLooks := .later }
def WaterfallRanksUptoCardSaid : Prop := Claim7.holds Tryz.pinned (.plain (OpenSpec.upto waterfallRanksSpec)) waterfallRanksUptoCard
end Rows
end Go.Proofs.YtinaeglgfomlaaaGreatDoor
