/-
  NARROWER THAN 'FOR EVERY INPUT', by the rows' own cells (each row's printed sentence says how): GuaranteeLast: laid · GuaranteeRefunds: laid · GuaranteeGrows: laid · GuaranteeRates: laid · GuaranteeDerivative: laid · GuaranteeBalance: laid · DisputeBounds: laid.
  DERIVED. THE GIVEN ROWS OF THIS SEAT. 7 by the template 'for every input the law returns true; each argument reads behind the call as it read before'; 0 by the template 'total and deterministic' (their statements: YtgmedcncbpdimaaDoorTotals.lean).
  GIVEN WITH THE SEED: the statements are not yours to turn. If you find one false, say at which input.
  Laid BY PROGRAM, IN A SANDBOX (cutbox-rows.mjs): the forced cells as the released guide's own fill.sh prints them over the translation b5a2e310e0dd56a3… (all of the seat's roots in one cut). By AI agents, Wed Nov 11 2026. No macro, syntax, notation, axiom, sorry.
-/
import Derived.Test.YtgmedcncbpdimaaDoorChecked
import GoSem.PinnedTables
import GoSem.Claim
import GoSem.ClaimJoined
import GoSem.ClaimMapViews
import Derived.JoinedTies
import Derived.KernelRfl
namespace Go.Proofs.YtgmedcncbpdimaaDoor
/- THE CELL 'sum', in the pinned program and in every row, IS THE sha256 OF THE DUMP (.gsa) THAT YtgmedcncbpdimaaDoorProg.lean LOADS. Nothing in Lean hashes anything: it is a label: what it is worth is what the hold of that sum in a sandbox is worth. -/
noncomputable def Tryd.pinned : Pinned := { name := "ytgmedcncbpdimaadoor", sum := "b5a2e310e0dd56a3f1223c32686c17edefc283493d1e17cb482065519099d684", checked := Tryd.checked }
namespace Rows
def none {H : Type} : Left H := { results := [], args := [] }

/- WHAT THE LISTED PACKAGE-LEVEL VARIABLES READ AS WHEN THE CALL BEGINS. Each datum BY PROGRAM (the guide's laid-datum.mjs) off the statement by which the dump's own 'gosem.cut.vars' lays the variable. In a bare row this is a premise. The card (YtgmedcncbpdimaaDoorCards.lean) ties it to the program's text. -/
def laid_unicode_utf8_acceptRanges {H : Type} : DataW H := .agg [.agg [.lit (.int .u8 128), .lit (.int .u8 191)], .agg [.lit (.int .u8 160), .lit (.int .u8 191)], .agg [.lit (.int .u8 128), .lit (.int .u8 159)], .agg [.lit (.int .u8 144), .lit (.int .u8 191)], .agg [.lit (.int .u8 128), .lit (.int .u8 143)], .agg [.lit (.int .u8 0), .lit (.int .u8 0)], .agg [.lit (.int .u8 0), .lit (.int .u8 0)], .agg [.lit (.int .u8 0), .lit (.int .u8 0)], .agg [.lit (.int .u8 0), .lit (.int .u8 0)], .agg [.lit (.int .u8 0), .lit (.int .u8 0)], .agg [.lit (.int .u8 0), .lit (.int .u8 0)], .agg [.lit (.int .u8 0), .lit (.int .u8 0)], .agg [.lit (.int .u8 0), .lit (.int .u8 0)], .agg [.lit (.int .u8 0), .lit (.int .u8 0)], .agg [.lit (.int .u8 0), .lit (.int .u8 0)], .agg [.lit (.int .u8 0), .lit (.int .u8 0)]]
/-- One of Go's own tables, pinned by name: the form's constant. -/
def laid_unicode_utf8_first : DataW Unit := Go.Pinned.utf8First

/-- 'insolvencylaw18.GuaranteeLast': WHATEVER THE INPUT: true; the input reads as it did. -/
def guaranteeLastSpec : ChangeSpec := { name := "guaranteeLast", fn := fun _ => fun
  | [d1, d2] => { results := [.lit (.bool true)], args := [d1, d2] }
  | _ => none }
def guaranteeLastRow : OpenClaim := { program := "ytgmedcncbpdimaadoor", sum := "b5a2e310e0dd56a3f1223c32686c17edefc283493d1e17cb482065519099d684", func := "insolvency/insolvencylaw18.GuaranteeLast", spec := "guaranteeLast", inPlace := ["internal/bytealg.IndexByteString", "internal/bytealg.IndexString", "internal/bytealg.abigen_runtime_cmpstring"], named := ["unicode/utf8.first", "unicode/utf8.acceptRanges", "internal/bytealg.MaxLen"], apart := false, laid := [("unicode/utf8.acceptRanges", laid_unicode_utf8_acceptRanges), ("unicode/utf8.first", laid_unicode_utf8_first)] }
def GuaranteeLastSaid : Prop := guaranteeLastRow.holds Tryd.pinned (OpenSpec.ofChange guaranteeLastSpec)

/-- ITS FALSE NEIGHBOUR: 'it returns false'. Refute it at one input. -/
def guaranteeLastWrong : ChangeSpec := { name := "guaranteeLast", fn := fun _ => fun
  | [d1, d2] => { results := [.lit (.bool false)], args := [d1, d2] }
  | _ => none }
def GuaranteeLastWrongFalsely : Prop := guaranteeLastRow.holds Tryd.pinned (OpenSpec.ofChange guaranteeLastWrong)

/-- 'insolvencylaw18.GuaranteeRefunds': WHATEVER THE INPUT: true; the input reads as it did. -/
def guaranteeRefundsSpec : ChangeSpec := { name := "guaranteeRefunds", fn := fun _ => fun
  | [d1, d2] => { results := [.lit (.bool true)], args := [d1, d2] }
  | _ => none }
def guaranteeRefundsRow : OpenClaim := { program := "ytgmedcncbpdimaadoor", sum := "b5a2e310e0dd56a3f1223c32686c17edefc283493d1e17cb482065519099d684", func := "insolvency/insolvencylaw18.GuaranteeRefunds", spec := "guaranteeRefunds", inPlace := ["internal/bytealg.IndexByteString", "internal/bytealg.IndexString", "internal/bytealg.abigen_runtime_cmpstring"], named := ["unicode/utf8.first", "unicode/utf8.acceptRanges", "internal/bytealg.MaxLen"], apart := false, laid := [("unicode/utf8.acceptRanges", laid_unicode_utf8_acceptRanges), ("unicode/utf8.first", laid_unicode_utf8_first)] }
def GuaranteeRefundsSaid : Prop := guaranteeRefundsRow.holds Tryd.pinned (OpenSpec.ofChange guaranteeRefundsSpec)

/-- ITS FALSE NEIGHBOUR: 'it returns false'. Refute it at one input. -/
def guaranteeRefundsWrong : ChangeSpec := { name := "guaranteeRefunds", fn := fun _ => fun
  | [d1, d2] => { results := [.lit (.bool false)], args := [d1, d2] }
  | _ => none }
def GuaranteeRefundsWrongFalsely : Prop := guaranteeRefundsRow.holds Tryd.pinned (OpenSpec.ofChange guaranteeRefundsWrong)

/-- 'insolvencylaw18.GuaranteeGrows': WHATEVER THE INPUT: true; the input reads as it did. -/
def guaranteeGrowsSpec : ChangeSpec := { name := "guaranteeGrows", fn := fun _ => fun
  | [d1, d2, d3, d4] => { results := [.lit (.bool true)], args := [d1, d2, d3, d4] }
  | _ => none }
def guaranteeGrowsRow : OpenClaim := { program := "ytgmedcncbpdimaadoor", sum := "b5a2e310e0dd56a3f1223c32686c17edefc283493d1e17cb482065519099d684", func := "insolvency/insolvencylaw18.GuaranteeGrows", spec := "guaranteeGrows", inPlace := ["internal/bytealg.IndexByteString", "internal/bytealg.IndexString", "internal/bytealg.abigen_runtime_cmpstring"], named := ["unicode/utf8.first", "unicode/utf8.acceptRanges", "internal/bytealg.MaxLen"], apart := false, laid := [("unicode/utf8.acceptRanges", laid_unicode_utf8_acceptRanges), ("unicode/utf8.first", laid_unicode_utf8_first)] }
def GuaranteeGrowsSaid : Prop := guaranteeGrowsRow.holds Tryd.pinned (OpenSpec.ofChange guaranteeGrowsSpec)

/-- ITS FALSE NEIGHBOUR: 'it returns false'. Refute it at one input. -/
def guaranteeGrowsWrong : ChangeSpec := { name := "guaranteeGrows", fn := fun _ => fun
  | [d1, d2, d3, d4] => { results := [.lit (.bool false)], args := [d1, d2, d3, d4] }
  | _ => none }
def GuaranteeGrowsWrongFalsely : Prop := guaranteeGrowsRow.holds Tryd.pinned (OpenSpec.ofChange guaranteeGrowsWrong)

/-- 'insolvencylaw18.GuaranteeRates': WHATEVER THE INPUT: true; the input reads as it did. -/
def guaranteeRatesSpec : ChangeSpec := { name := "guaranteeRates", fn := fun _ => fun
  | [d1, d2, d3] => { results := [.lit (.bool true)], args := [d1, d2, d3] }
  | _ => none }
def guaranteeRatesRow : OpenClaim := { program := "ytgmedcncbpdimaadoor", sum := "b5a2e310e0dd56a3f1223c32686c17edefc283493d1e17cb482065519099d684", func := "insolvency/insolvencylaw18.GuaranteeRates", spec := "guaranteeRates", inPlace := ["internal/bytealg.IndexByteString", "internal/bytealg.IndexString", "internal/bytealg.abigen_runtime_cmpstring"], named := ["unicode/utf8.first", "unicode/utf8.acceptRanges", "internal/bytealg.MaxLen"], apart := false, laid := [("unicode/utf8.acceptRanges", laid_unicode_utf8_acceptRanges), ("unicode/utf8.first", laid_unicode_utf8_first)] }
def GuaranteeRatesSaid : Prop := guaranteeRatesRow.holds Tryd.pinned (OpenSpec.ofChange guaranteeRatesSpec)

/-- ITS FALSE NEIGHBOUR: 'it returns false'. Refute it at one input. -/
def guaranteeRatesWrong : ChangeSpec := { name := "guaranteeRates", fn := fun _ => fun
  | [d1, d2, d3] => { results := [.lit (.bool false)], args := [d1, d2, d3] }
  | _ => none }
def GuaranteeRatesWrongFalsely : Prop := guaranteeRatesRow.holds Tryd.pinned (OpenSpec.ofChange guaranteeRatesWrong)

/-- 'insolvencylaw18.GuaranteeDerivative': WHATEVER THE INPUT: true; the input reads as it did. -/
def guaranteeDerivativeSpec : ChangeSpec := { name := "guaranteeDerivative", fn := fun _ => fun
  | [d1, d2, d3] => { results := [.lit (.bool true)], args := [d1, d2, d3] }
  | _ => none }
def guaranteeDerivativeRow : OpenClaim := { program := "ytgmedcncbpdimaadoor", sum := "b5a2e310e0dd56a3f1223c32686c17edefc283493d1e17cb482065519099d684", func := "insolvency/insolvencylaw18.GuaranteeDerivative", spec := "guaranteeDerivative", inPlace := ["internal/bytealg.IndexByteString", "internal/bytealg.IndexString", "internal/bytealg.abigen_runtime_cmpstring"], named := ["unicode/utf8.first", "unicode/utf8.acceptRanges", "internal/bytealg.MaxLen"], apart := false, laid := [("unicode/utf8.acceptRanges", laid_unicode_utf8_acceptRanges), ("unicode/utf8.first", laid_unicode_utf8_first)] }
def GuaranteeDerivativeSaid : Prop := guaranteeDerivativeRow.holds Tryd.pinned (OpenSpec.ofChange guaranteeDerivativeSpec)

/-- ITS FALSE NEIGHBOUR: 'it returns false'. Refute it at one input. -/
def guaranteeDerivativeWrong : ChangeSpec := { name := "guaranteeDerivative", fn := fun _ => fun
  | [d1, d2, d3] => { results := [.lit (.bool false)], args := [d1, d2, d3] }
  | _ => none }
def GuaranteeDerivativeWrongFalsely : Prop := guaranteeDerivativeRow.holds Tryd.pinned (OpenSpec.ofChange guaranteeDerivativeWrong)

/-- 'insolvencylaw18.GuaranteeBalance': WHATEVER THE INPUT: true; the input reads as it did. -/
def guaranteeBalanceSpec : ChangeSpec := { name := "guaranteeBalance", fn := fun _ => fun
  | [d1, d2] => { results := [.lit (.bool true)], args := [d1, d2] }
  | _ => none }
def guaranteeBalanceRow : OpenClaim := { program := "ytgmedcncbpdimaadoor", sum := "b5a2e310e0dd56a3f1223c32686c17edefc283493d1e17cb482065519099d684", func := "insolvency/insolvencylaw18.GuaranteeBalance", spec := "guaranteeBalance", inPlace := ["internal/bytealg.IndexByteString", "internal/bytealg.IndexString", "internal/bytealg.abigen_runtime_cmpstring"], named := ["unicode/utf8.first", "unicode/utf8.acceptRanges", "internal/bytealg.MaxLen"], apart := false, laid := [("unicode/utf8.acceptRanges", laid_unicode_utf8_acceptRanges), ("unicode/utf8.first", laid_unicode_utf8_first)] }
def GuaranteeBalanceSaid : Prop := guaranteeBalanceRow.holds Tryd.pinned (OpenSpec.ofChange guaranteeBalanceSpec)

/-- ITS FALSE NEIGHBOUR: 'it returns false'. Refute it at one input. -/
def guaranteeBalanceWrong : ChangeSpec := { name := "guaranteeBalance", fn := fun _ => fun
  | [d1, d2] => { results := [.lit (.bool false)], args := [d1, d2] }
  | _ => none }
def GuaranteeBalanceWrongFalsely : Prop := guaranteeBalanceRow.holds Tryd.pinned (OpenSpec.ofChange guaranteeBalanceWrong)

/-- 'insolvencylaw22.DisputeBounds': WHATEVER THE INPUT: true; the input reads as it did. -/
def disputeBoundsSpec : ChangeSpec := { name := "disputeBounds", fn := fun _ => fun
  | [d] => { results := [.lit (.bool true)], args := [d] }
  | _ => none }
def disputeBoundsRow : OpenClaim := { program := "ytgmedcncbpdimaadoor", sum := "b5a2e310e0dd56a3f1223c32686c17edefc283493d1e17cb482065519099d684", func := "insolvency/insolvencylaw22.DisputeBounds", spec := "disputeBounds", inPlace := ["internal/bytealg.IndexByteString", "internal/bytealg.IndexString", "internal/bytealg.abigen_runtime_cmpstring"], named := ["unicode/utf8.first", "unicode/utf8.acceptRanges", "internal/bytealg.MaxLen"], apart := false, laid := [("unicode/utf8.acceptRanges", laid_unicode_utf8_acceptRanges), ("unicode/utf8.first", laid_unicode_utf8_first)] }
def DisputeBoundsSaid : Prop := disputeBoundsRow.holds Tryd.pinned (OpenSpec.ofChange disputeBoundsSpec)

/-- ITS FALSE NEIGHBOUR: 'it returns false'. Refute it at one input. -/
def disputeBoundsWrong : ChangeSpec := { name := "disputeBounds", fn := fun _ => fun
  | [d] => { results := [.lit (.bool false)], args := [d] }
  | _ => none }
def DisputeBoundsWrongFalsely : Prop := disputeBoundsRow.holds Tryd.pinned (OpenSpec.ofChange disputeBoundsWrong)

/- THE SECOND FORM. 'bulk': how many values and letters a reading holds, each counted each time it is reached (what is shared counts as often as it is met; a slice's spare places count too). A statement '..UptoSaid' is the law's where the arguments, and the package variables that the reading takes, are together of bulk at most 1048576: NARROWER than '..Said'. Prove '..Said' where nothing that the law and all that it calls make is longer than what came in: it says more and counts as full. Else prove '..UptoSaid'. A law counts once. -/
mutual
def uptoBulk {H : Type} : DataW H → Nat
  | .lit (.string bytes) => bytes.length + 1
  | .lit _ => 1
  | .nil => 1
  | .ptr d => uptoBulk d + 1
  | .slice elems spare => uptoBulkAll elems + uptoBulkAll spare + 1
  | .agg parts => uptoBulkAll parts + 1
  | .iface _ d => uptoBulk d + 1
  | .map entries => uptoBulkEntries entries + 1
  | .held _ => 1
def uptoBulkAll {H : Type} : List (DataW H) → Nat
  | [] => 0
  | d :: r => uptoBulk d + uptoBulkAll r
def uptoBulkEntries {H : Type} : List (Lit × DataW H) → Nat
  | [] => 0
  | x :: r => uptoBulkEntry x + uptoBulkEntries r
def uptoBulkEntry {H : Type} : Lit × DataW H → Nat
  | (.string bytes, d) => bytes.length + uptoBulk d + 1
  | (_, d) => uptoBulk d + 1
 end
def uptoSmall : (H : Type) → List (DataW H) → Bool := fun _ ds => decide (uptoBulkAll ds ≤ 1048576)
def OpenSpec.upto (s : _root_.Go.ChangeSpec) : _root_.Go.OpenSpec := { _root_.Go.OpenSpec.ofChange s with cond := some uptoSmall }

/-- 'insolvencylaw18.GuaranteeLast', WHERE WHAT IT READS IS OF BULK AT MOST 1048576: true; the input reads as it did. -/
def guaranteeLastUptoRow : OpenClaim := { program := "ytgmedcncbpdimaadoor", sum := "b5a2e310e0dd56a3f1223c32686c17edefc283493d1e17cb482065519099d684", func := "insolvency/insolvencylaw18.GuaranteeLast", spec := "guaranteeLast", inPlace := ["internal/bytealg.IndexByteString", "internal/bytealg.IndexString", "internal/bytealg.abigen_runtime_cmpstring"], named := ["unicode/utf8.first", "unicode/utf8.acceptRanges", "internal/bytealg.MaxLen"], apart := false, laid := [("unicode/utf8.acceptRanges", laid_unicode_utf8_acceptRanges), ("unicode/utf8.first", laid_unicode_utf8_first)], narrowed := true }
def GuaranteeLastUptoSaid : Prop := guaranteeLastUptoRow.holds Tryd.pinned (OpenSpec.upto guaranteeLastSpec)

/-- 'insolvencylaw18.GuaranteeRefunds', WHERE WHAT IT READS IS OF BULK AT MOST 1048576: true; the input reads as it did. -/
def guaranteeRefundsUptoRow : OpenClaim := { program := "ytgmedcncbpdimaadoor", sum := "b5a2e310e0dd56a3f1223c32686c17edefc283493d1e17cb482065519099d684", func := "insolvency/insolvencylaw18.GuaranteeRefunds", spec := "guaranteeRefunds", inPlace := ["internal/bytealg.IndexByteString", "internal/bytealg.IndexString", "internal/bytealg.abigen_runtime_cmpstring"], named := ["unicode/utf8.first", "unicode/utf8.acceptRanges", "internal/bytealg.MaxLen"], apart := false, laid := [("unicode/utf8.acceptRanges", laid_unicode_utf8_acceptRanges), ("unicode/utf8.first", laid_unicode_utf8_first)], narrowed := true }
def GuaranteeRefundsUptoSaid : Prop := guaranteeRefundsUptoRow.holds Tryd.pinned (OpenSpec.upto guaranteeRefundsSpec)

/-- 'insolvencylaw18.GuaranteeGrows', WHERE WHAT IT READS IS OF BULK AT MOST 1048576: true; the input reads as it did. -/
def guaranteeGrowsUptoRow : OpenClaim := { program := "ytgmedcncbpdimaadoor", sum := "b5a2e310e0dd56a3f1223c32686c17edefc283493d1e17cb482065519099d684", func := "insolvency/insolvencylaw18.GuaranteeGrows", spec := "guaranteeGrows", inPlace := ["internal/bytealg.IndexByteString", "internal/bytealg.IndexString", "internal/bytealg.abigen_runtime_cmpstring"], named := ["unicode/utf8.first", "unicode/utf8.acceptRanges", "internal/bytealg.MaxLen"], apart := false, laid := [("unicode/utf8.acceptRanges", laid_unicode_utf8_acceptRanges), ("unicode/utf8.first", laid_unicode_utf8_first)], narrowed := true }
def GuaranteeGrowsUptoSaid : Prop := guaranteeGrowsUptoRow.holds Tryd.pinned (OpenSpec.upto guaranteeGrowsSpec)

/-- 'insolvencylaw18.GuaranteeRates', WHERE WHAT IT READS IS OF BULK AT MOST 1048576: true; the input reads as it did. -/
def guaranteeRatesUptoRow : OpenClaim := { program := "ytgmedcncbpdimaadoor", sum := "b5a2e310e0dd56a3f1223c32686c17edefc283493d1e17cb482065519099d684", func := "insolvency/insolvencylaw18.GuaranteeRates", spec := "guaranteeRates", inPlace := ["internal/bytealg.IndexByteString", "internal/bytealg.IndexString", "internal/bytealg.abigen_runtime_cmpstring"], named := ["unicode/utf8.first", "unicode/utf8.acceptRanges", "internal/bytealg.MaxLen"], apart := false, laid := [("unicode/utf8.acceptRanges", laid_unicode_utf8_acceptRanges), ("unicode/utf8.first", laid_unicode_utf8_first)], narrowed := true }
def GuaranteeRatesUptoSaid : Prop := guaranteeRatesUptoRow.holds Tryd.pinned (OpenSpec.upto guaranteeRatesSpec)

/-- 'insolvencylaw18.GuaranteeDerivative', WHERE WHAT IT READS IS OF BULK AT MOST 1048576: true; the input reads as it did. -/
def guaranteeDerivativeUptoRow : OpenClaim := { program := "ytgmedcncbpdimaadoor", sum := "b5a2e310e0dd56a3f1223c32686c17edefc283493d1e17cb482065519099d684", func := "insolvency/insolvencylaw18.GuaranteeDerivative", spec := "guaranteeDerivative", inPlace := ["internal/bytealg.IndexByteString", "internal/bytealg.IndexString", "internal/bytealg.abigen_runtime_cmpstring"], named := ["unicode/utf8.first", "unicode/utf8.acceptRanges", "internal/bytealg.MaxLen"], apart := false, laid := [("unicode/utf8.acceptRanges", laid_unicode_utf8_acceptRanges), ("unicode/utf8.first", laid_unicode_utf8_first)], narrowed := true }
def GuaranteeDerivativeUptoSaid : Prop := guaranteeDerivativeUptoRow.holds Tryd.pinned (OpenSpec.upto guaranteeDerivativeSpec)

/-- 'insolvencylaw18.GuaranteeBalance', WHERE WHAT IT READS IS OF BULK AT MOST 1048576: true; the input reads as it did. -/
def guaranteeBalanceUptoRow : OpenClaim := { program := "ytgmedcncbpdimaadoor", sum := "b5a2e310e0dd56a3f1223c32686c17edefc283493d1e17cb482065519099d684", func := "insolvency/insolvencylaw18.GuaranteeBalance", spec := "guaranteeBalance", inPlace := ["internal/bytealg.IndexByteString", "internal/bytealg.IndexString", "internal/bytealg.abigen_runtime_cmpstring"], named := ["unicode/utf8.first", "unicode/utf8.acceptRanges", "internal/bytealg.MaxLen"], apart := false, laid := [("unicode/utf8.acceptRanges", laid_unicode_utf8_acceptRanges), ("unicode/utf8.first", laid_unicode_utf8_first)], narrowed := true }
def GuaranteeBalanceUptoSaid : Prop := guaranteeBalanceUptoRow.holds Tryd.pinned (OpenSpec.upto guaranteeBalanceSpec)

/-- 'insolvencylaw22.DisputeBounds', WHERE WHAT IT READS IS OF BULK AT MOST 1048576: true; the input reads as it did. -/
def disputeBoundsUptoRow : OpenClaim := { program := "ytgmedcncbpdimaadoor", sum := "b5a2e310e0dd56a3f1223c32686c17edefc283493d1e17cb482065519099d684", func := "insolvency/insolvencylaw22.DisputeBounds", spec := "disputeBounds", inPlace := ["internal/bytealg.IndexByteString", "internal/bytealg.IndexString", "internal/bytealg.abigen_runtime_cmpstring"], named := ["unicode/utf8.first", "unicode/utf8.acceptRanges", "internal/bytealg.MaxLen"], apart := false, laid := [("unicode/utf8.acceptRanges", laid_unicode_utf8_acceptRanges), ("unicode/utf8.first", laid_unicode_utf8_first)], narrowed := true }
def DisputeBoundsUptoSaid : Prop := disputeBoundsUptoRow.holds Tryd.pinned (OpenSpec.upto disputeBoundsSpec)

end Rows
end Go.Proofs.YtgmedcncbpdimaaDoor
