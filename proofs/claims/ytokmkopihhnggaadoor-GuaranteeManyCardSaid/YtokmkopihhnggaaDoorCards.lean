/-
  DERIVED. GIVEN WITH THE SEED: THE CARDS: each row of YtokmkopihhnggaaDoorRows.lean that lists a variable, with what it lists TIED to the program's text (the seventh form; the later family's looks); each row that meets fmt, with fmt's text TOLD by the authors' own Lean function (tested against real Go, not proved from fmt's source: count such statements apart). THE CARD IS WHAT COUNTS. Prove the row's statement (the work); the ties are given (YtokmkopihhnggaaDoorTie.lean); close each card by the builder's one call (the guide's Derived/Test/ToyasCard.lean, 'card_holds'). Laid BY PROGRAM, IN A SANDBOX (cutbox-door.mjs). By AI agents, Wed Nov 11 2026. No macro, syntax, notation, axiom, sorry.
-/
import Derived.Test.YtokmkopihhnggaaDoorRows
import GoSem.ClaimSeven
namespace Go.Proofs.YtokmkopihhnggaaDoor
namespace Rows

/-- THE TIED CARD OF 'insolvencylaw18.GuaranteeMany'. -/
def guaranteeManyCard : Claim7 := { stood := { row := guaranteeManyRow, standIns := [], harness := (true, "952981286a6faf017c6b090dcadaabac3beabe852507ca203d375f2a11e878ce"), looks := false }, kinds := [], alts := [], laidByText := true, laidKinds := [.data, .pinned], laidTests := true, laidLooks := .later }
def GuaranteeManyCardSaid : Prop := Claim7.holds Tryd.pinned (.plain (OpenSpec.ofChange guaranteeManySpec)) guaranteeManyCard

/-- THE SECOND FORM's CARD OF 'insolvencylaw18.GuaranteeMany'. -/
def guaranteeManyUptoCard : Claim7 := { stood := { row := guaranteeManyUptoRow, standIns := [], harness := (true, "952981286a6faf017c6b090dcadaabac3beabe852507ca203d375f2a11e878ce"), looks := false }, kinds := [], alts := [], laidByText := true, laidKinds := [.data, .pinned], laidTests := true, laidLooks := .later }
def GuaranteeManyUptoCardSaid : Prop := Claim7.holds Tryd.pinned (.plain (OpenSpec.upto guaranteeManySpec)) guaranteeManyUptoCard
end Rows
end Go.Proofs.YtokmkopihhnggaaDoor
