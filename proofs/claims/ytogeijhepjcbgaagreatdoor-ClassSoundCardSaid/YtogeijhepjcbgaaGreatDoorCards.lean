/-
  DERIVED. GIVEN WITH THE SEED: THE CARDS: each row of YtogeijhepjcbgaaGreatDoorRows.lean that lists a variable, with what it lists TIED to the program's text (the seventh form; the later family's looks); each row that meets fmt, with fmt's text TOLD by the authors' own Lean function (tested against real Go, not proved from fmt's source: count such statements apart). THE CARD IS WHAT COUNTS. Prove the row's statement (the work); the ties are given (YtogeijhepjcbgaaGreatDoorTie.lean); close each card by the builder's one call (the guide's Derived/Test/ToyasCard.lean, 'card_holds'). Laid BY PROGRAM, IN A SANDBOX (cutbox-door.mjs). By AI agents, Wed Nov 11 2026. No macro, syntax, notation, axiom, sorry.
-/
import Derived.Test.YtogeijhepjcbgaaGreatDoorRows
import GoSem.ClaimSeven
namespace Go.Proofs.YtogeijhepjcbgaaGreatDoor
namespace Rows

/-- THE TIED CARD OF 'insolvencylaw22.DisputeCheck'. -/
def disputeCheckCard : Claim7 := { stood := { row := disputeCheckRow, standIns := [], harness := (true, "1307a98cddc3c8f4d80c65cf84d92f1b2b05e9435e83b29cd01e2293dd6805c8"), looks := false }, kinds := [], alts := [], laidByText := true, laidKinds := [.data, .pinned], laidTests := true, laidLooks := .later }
def DisputeCheckCardSaid : Prop := Claim7.holds Tryz.pinned (.plain (OpenSpec.ofChange disputeCheckSpec)) disputeCheckCard

/-- THE TIED CARD OF 'insolvencylaw22.DisputeSpoilt'. -/
def disputeSpoiltCard : Claim7 := { stood := { row := disputeSpoiltRow, standIns := [], harness := (true, "1307a98cddc3c8f4d80c65cf84d92f1b2b05e9435e83b29cd01e2293dd6805c8"), looks := false }, kinds := [], alts := [], laidByText := true, laidKinds := [.data, .pinned], laidTests := true, laidLooks := .later }
def DisputeSpoiltCardSaid : Prop := Claim7.holds Tryz.pinned (.plain (OpenSpec.ofChange disputeSpoiltSpec)) disputeSpoiltCard

/-- THE TIED CARD OF 'insolvencylaw29.ClassForm'. -/
def classFormCard : Claim7 := { stood := { row := classFormRow, standIns := [], harness := (true, "1307a98cddc3c8f4d80c65cf84d92f1b2b05e9435e83b29cd01e2293dd6805c8"), looks := false }, kinds := [], alts := [], laidByText := true, laidKinds := [.data, .pinned], laidTests := true, laidLooks := .later }
def ClassFormCardSaid : Prop := Claim7.holds Tryz.pinned (.plain (OpenSpec.ofChange classFormSpec)) classFormCard

/-- THE TIED CARD OF 'insolvencylaw29.ClassMany'. -/
def classManyCard : Claim7 := { stood := { row := classManyRow, standIns := [], harness := (true, "1307a98cddc3c8f4d80c65cf84d92f1b2b05e9435e83b29cd01e2293dd6805c8"), looks := false }, kinds := [], alts := [], laidByText := true, laidKinds := [.data, .pinned], laidTests := true, laidLooks := .later }
def ClassManyCardSaid : Prop := Claim7.holds Tryz.pinned (.plain (OpenSpec.ofChange classManySpec)) classManyCard

/-- THE TIED CARD OF 'insolvencylaw29.ClassCheck'. -/
def classCheckCard : Claim7 := { stood := { row := classCheckRow, standIns := [], harness := (true, "1307a98cddc3c8f4d80c65cf84d92f1b2b05e9435e83b29cd01e2293dd6805c8"), looks := false }, kinds := [], alts := [], laidByText := true, laidKinds := [.data, .pinned], laidTests := true, laidLooks := .later }
def ClassCheckCardSaid : Prop := Claim7.holds Tryz.pinned (.plain (OpenSpec.ofChange classCheckSpec)) classCheckCard

/-- THE TIED CARD OF 'insolvencylaw18.GuaranteeBroken'. -/
def guaranteeBrokenCard : Claim7 := { stood := { row := guaranteeBrokenRow, standIns := [], harness := (true, "1307a98cddc3c8f4d80c65cf84d92f1b2b05e9435e83b29cd01e2293dd6805c8"), looks := false }, kinds := [], alts := [], laidByText := true, laidKinds := [.data, .pinned], laidTests := true, laidLooks := .later }
def GuaranteeBrokenCardSaid : Prop := Claim7.holds Tryz.pinned (.plain (OpenSpec.ofChange guaranteeBrokenSpec)) guaranteeBrokenCard

/-- THE TIED CARD OF 'insolvencylaw18.GuaranteeCheck'. -/
def guaranteeCheckCard : Claim7 := { stood := { row := guaranteeCheckRow, standIns := [], harness := (true, "1307a98cddc3c8f4d80c65cf84d92f1b2b05e9435e83b29cd01e2293dd6805c8"), looks := false }, kinds := [], alts := [], laidByText := true, laidKinds := [.data, .pinned], laidTests := true, laidLooks := .later }
def GuaranteeCheckCardSaid : Prop := Claim7.holds Tryz.pinned (.plain (OpenSpec.ofChange guaranteeCheckSpec)) guaranteeCheckCard

/-- THE TIED CARD OF 'insolvencylaw18.GuaranteeBuilt'. -/
def guaranteeBuiltCard : Claim7 := { stood := { row := guaranteeBuiltRow, standIns := [], harness := (true, "1307a98cddc3c8f4d80c65cf84d92f1b2b05e9435e83b29cd01e2293dd6805c8"), looks := false }, kinds := [], alts := [], laidByText := true, laidKinds := [.data, .pinned], laidTests := true, laidLooks := .later }
def GuaranteeBuiltCardSaid : Prop := Claim7.holds Tryz.pinned (.plain (OpenSpec.ofChange guaranteeBuiltSpec)) guaranteeBuiltCard

/-- THE TIED CARD OF 'insolvencylaw29.ClassSum'. -/
def classSumCard : Claim7 := { stood := { row := classSumRow, standIns := [], harness := (true, "1307a98cddc3c8f4d80c65cf84d92f1b2b05e9435e83b29cd01e2293dd6805c8"), looks := false }, kinds := [], alts := [], laidByText := true, laidKinds := [.data, .pinned], laidTests := true, laidLooks := .later }
def ClassSumCardSaid : Prop := Claim7.holds Tryz.pinned (.plain (OpenSpec.ofChange classSumSpec)) classSumCard

/-- THE TIED CARD OF 'insolvencylaw29.ClassSound'. -/
def classSoundCard : Claim7 := { stood := { row := classSoundRow, standIns := [], harness := (true, "1307a98cddc3c8f4d80c65cf84d92f1b2b05e9435e83b29cd01e2293dd6805c8"), looks := false }, kinds := [], alts := [], laidByText := true, laidKinds := [.data, .pinned], laidTests := true, laidLooks := .later }
def ClassSoundCardSaid : Prop := Claim7.holds Tryz.pinned (.plain (OpenSpec.ofChange classSoundSpec)) classSoundCard

/-- THE SECOND FORM's CARD OF 'insolvencylaw22.DisputeCheck'. -/
def disputeCheckUptoCard : Claim7 := { stood := { row := disputeCheckUptoRow, standIns := [], harness := (true, "1307a98cddc3c8f4d80c65cf84d92f1b2b05e9435e83b29cd01e2293dd6805c8"), looks := false }, kinds := [], alts := [], laidByText := true, laidKinds := [.data, .pinned], laidTests := true, laidLooks := .later }
def DisputeCheckUptoCardSaid : Prop := Claim7.holds Tryz.pinned (.plain (OpenSpec.upto disputeCheckSpec)) disputeCheckUptoCard

/-- THE SECOND FORM's CARD OF 'insolvencylaw22.DisputeSpoilt'. -/
def disputeSpoiltUptoCard : Claim7 := { stood := { row := disputeSpoiltUptoRow, standIns := [], harness := (true, "1307a98cddc3c8f4d80c65cf84d92f1b2b05e9435e83b29cd01e2293dd6805c8"), looks := false }, kinds := [], alts := [], laidByText := true, laidKinds := [.data, .pinned], laidTests := true, laidLooks := .later }
def DisputeSpoiltUptoCardSaid : Prop := Claim7.holds Tryz.pinned (.plain (OpenSpec.upto disputeSpoiltSpec)) disputeSpoiltUptoCard

/-- THE SECOND FORM's CARD OF 'insolvencylaw29.ClassForm'. -/
def classFormUptoCard : Claim7 := { stood := { row := classFormUptoRow, standIns := [], harness := (true, "1307a98cddc3c8f4d80c65cf84d92f1b2b05e9435e83b29cd01e2293dd6805c8"), looks := false }, kinds := [], alts := [], laidByText := true, laidKinds := [.data, .pinned], laidTests := true, laidLooks := .later }
def ClassFormUptoCardSaid : Prop := Claim7.holds Tryz.pinned (.plain (OpenSpec.upto classFormSpec)) classFormUptoCard

/-- THE SECOND FORM's CARD OF 'insolvencylaw29.ClassMany'. -/
def classManyUptoCard : Claim7 := { stood := { row := classManyUptoRow, standIns := [], harness := (true, "1307a98cddc3c8f4d80c65cf84d92f1b2b05e9435e83b29cd01e2293dd6805c8"), looks := false }, kinds := [], alts := [], laidByText := true, laidKinds := [.data, .pinned], laidTests := true, laidLooks := .later }
def ClassManyUptoCardSaid : Prop := Claim7.holds Tryz.pinned (.plain (OpenSpec.upto classManySpec)) classManyUptoCard

/-- THE SECOND FORM's CARD OF 'insolvencylaw29.ClassCheck'. -/
def classCheckUptoCard : Claim7 := { stood := { row := classCheckUptoRow, standIns := [], harness := (true, "1307a98cddc3c8f4d80c65cf84d92f1b2b05e9435e83b29cd01e2293dd6805c8"), looks := false }, kinds := [], alts := [], laidByText := true, laidKinds := [.data, .pinned], laidTests := true, laidLooks := .later }
def ClassCheckUptoCardSaid : Prop := Claim7.holds Tryz.pinned (.plain (OpenSpec.upto classCheckSpec)) classCheckUptoCard

/-- THE SECOND FORM's CARD OF 'insolvencylaw18.GuaranteeBroken'. -/
def guaranteeBrokenUptoCard : Claim7 := { stood := { row := guaranteeBrokenUptoRow, standIns := [], harness := (true, "1307a98cddc3c8f4d80c65cf84d92f1b2b05e9435e83b29cd01e2293dd6805c8"), looks := false }, kinds := [], alts := [], laidByText := true, laidKinds := [.data, .pinned], laidTests := true, laidLooks := .later }
def GuaranteeBrokenUptoCardSaid : Prop := Claim7.holds Tryz.pinned (.plain (OpenSpec.upto guaranteeBrokenSpec)) guaranteeBrokenUptoCard

/-- THE SECOND FORM's CARD OF 'insolvencylaw18.GuaranteeCheck'. -/
def guaranteeCheckUptoCard : Claim7 := { stood := { row := guaranteeCheckUptoRow, standIns := [], harness := (true, "1307a98cddc3c8f4d80c65cf84d92f1b2b05e9435e83b29cd01e2293dd6805c8"), looks := false }, kinds := [], alts := [], laidByText := true, laidKinds := [.data, .pinned], laidTests := true, laidLooks := .later }
def GuaranteeCheckUptoCardSaid : Prop := Claim7.holds Tryz.pinned (.plain (OpenSpec.upto guaranteeCheckSpec)) guaranteeCheckUptoCard

/-- THE SECOND FORM's CARD OF 'insolvencylaw18.GuaranteeBuilt'. -/
def guaranteeBuiltUptoCard : Claim7 := { stood := { row := guaranteeBuiltUptoRow, standIns := [], harness := (true, "1307a98cddc3c8f4d80c65cf84d92f1b2b05e9435e83b29cd01e2293dd6805c8"), looks := false }, kinds := [], alts := [], laidByText := true, laidKinds := [.data, .pinned], laidTests := true, laidLooks := .later }
def GuaranteeBuiltUptoCardSaid : Prop := Claim7.holds Tryz.pinned (.plain (OpenSpec.upto guaranteeBuiltSpec)) guaranteeBuiltUptoCard

/-- THE SECOND FORM's CARD OF 'insolvencylaw29.ClassSum'. -/
def classSumUptoCard : Claim7 := { stood := { row := classSumUptoRow, standIns := [], harness := (true, "1307a98cddc3c8f4d80c65cf84d92f1b2b05e9435e83b29cd01e2293dd6805c8"), looks := false }, kinds := [], alts := [], laidByText := true, laidKinds := [.data, .pinned], laidTests := true, laidLooks := .later }
def ClassSumUptoCardSaid : Prop := Claim7.holds Tryz.pinned (.plain (OpenSpec.upto classSumSpec)) classSumUptoCard

/-- THE SECOND FORM's CARD OF 'insolvencylaw29.ClassSound'. -/
def classSoundUptoCard : Claim7 := { stood := { row := classSoundUptoRow, standIns := [], harness := (true, "1307a98cddc3c8f4d80c65cf84d92f1b2b05e9435e83b29cd01e2293dd6805c8"), looks := false }, kinds := [], alts := [], laidByText := true, laidKinds := [.data, .pinned], laidTests := true, laidLooks := .later }
def ClassSoundUptoCardSaid : Prop := Claim7.holds Tryz.pinned (.plain (OpenSpec.upto classSoundSpec)) classSoundUptoCard
end Rows
end Go.Proofs.YtogeijhepjcbgaaGreatDoor
