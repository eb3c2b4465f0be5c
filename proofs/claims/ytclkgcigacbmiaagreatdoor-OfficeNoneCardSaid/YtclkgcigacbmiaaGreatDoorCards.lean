/-
  DERIVED. GIVEN WITH THE SEED: THE CARDS: each row of YtclkgcigacbmiaaGreatDoorRows.lean that lists a variable, with what it lists TIED to the program's text (the seventh form; the later family's looks); each row that meets fmt, with fmt's text TOLD by the authors' own Lean function (tested against real Go, not proved from fmt's source: count such statements apart). THE CARD IS WHAT COUNTS. Prove the row's statement (the work); the ties are given (YtclkgcigacbmiaaGreatDoorTie.lean); close each card by the builder's one call (the guide's Derived/Test/ToyasCard.lean, 'card_holds'). Laid BY PROGRAM, IN A SANDBOX (cutbox-door.mjs). By AI agents, Wed Nov 11 2026. No macro, syntax, notation, axiom, sorry.
-/
import Derived.Test.YtclkgcigacbmiaaGreatDoorRows
import GoSem.ClaimSeven
namespace Go.Proofs.YtclkgcigacbmiaaGreatDoor
namespace Rows

/-- THE TIED CARD OF 'insolvencylaw40.OfficeNone'. -/
def officeNoneCard : Claim7 := { stood := { row := officeNoneRow, standIns := [], harness := (true, "3f405dcfccce1779dca57e896bea5912cfb25eedf85d27660a55ddc6f4fa8bf7"), looks := false }, kinds := [], alts := [], laidByText := true, laidKinds := [.data, .data, .data, .data, .pinned], laidTests := true, laidLooks := .later }
def OfficeNoneCardSaid : Prop := Claim7.holds Tryz.pinned (.plain (OpenSpec.ofChange officeNoneSpec)) officeNoneCard

/-- THE TIED CARD OF 'insolvencylaw28.ClawbackPayer'. -/
def clawbackPayerCard : Claim7 := { stood := { row := clawbackPayerRow, standIns := [], harness := (true, "3f405dcfccce1779dca57e896bea5912cfb25eedf85d27660a55ddc6f4fa8bf7"), looks := false }, kinds := [], alts := [], laidByText := true, laidKinds := [.data, .pinned], laidTests := true, laidLooks := .later }
def ClawbackPayerCardSaid : Prop := Claim7.holds Tryz.pinned (.plain (OpenSpec.ofChange clawbackPayerSpec)) clawbackPayerCard

/-- THE SECOND FORM's CARD OF 'insolvencylaw40.OfficeNone'. -/
def officeNoneUptoCard : Claim7 := { stood := { row := officeNoneUptoRow, standIns := [], harness := (true, "3f405dcfccce1779dca57e896bea5912cfb25eedf85d27660a55ddc6f4fa8bf7"), looks := false }, kinds := [], alts := [], laidByText := true, laidKinds := [.data, .data, .data, .data, .pinned], laidTests := true, laidLooks := .later }
def OfficeNoneUptoCardSaid : Prop := Claim7.holds Tryz.pinned (.plain (OpenSpec.upto officeNoneSpec)) officeNoneUptoCard

/-- THE SECOND FORM's CARD OF 'insolvencylaw28.ClawbackPayer'. -/
def clawbackPayerUptoCard : Claim7 := { stood := { row := clawbackPayerUptoRow, standIns := [], harness := (true, "3f405dcfccce1779dca57e896bea5912cfb25eedf85d27660a55ddc6f4fa8bf7"), looks := false }, kinds := [], alts := [], laidByText := true, laidKinds := [.data, .pinned], laidTests := true, laidLooks := .later }
def ClawbackPayerUptoCardSaid : Prop := Claim7.holds Tryz.pinned (.plain (OpenSpec.upto clawbackPayerSpec)) clawbackPayerUptoCard
end Rows
end Go.Proofs.YtclkgcigacbmiaaGreatDoor
