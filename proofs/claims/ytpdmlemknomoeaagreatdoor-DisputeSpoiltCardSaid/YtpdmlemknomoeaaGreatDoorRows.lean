/-
  NARROWER THAN 'FOR EVERY INPUT', by the rows' own cells (each row's printed sentence says how): DisputeSpoilt: laid · ClassCheck: laid · GuaranteeBroken: laid · DisputeApply: laid · DisputeDecide: laid · DisputeOrder: laid.
  DERIVED. THE GIVEN ROWS OF THIS SEAT. 6 by the template 'for every input the law returns true; each argument reads behind the call as it read before'; 0 by the template 'total and deterministic' (their statements: YtpdmlemknomoeaaGreatDoorTotals.lean).
  GIVEN WITH THE SEED: the statements are not yours to turn. If you find one false, say at which input.
  Laid BY PROGRAM, IN A SANDBOX (cutbox-rows.mjs): the forced cells as the released guide's own fill.sh prints them over the translation deec5dc2cd9997a7… (all of the seat's roots in one cut). By AI agents, Wed Nov 11 2026. No macro, syntax, notation, axiom, sorry.
-/
import Derived.Test.YtpdmlemknomoeaaGreatDoorChecked
import GoSem.PinnedTables
import GoSem.Claim
import GoSem.ClaimJoined
import GoSem.ClaimMapViews
import Derived.JoinedTies
import Derived.KernelRfl
namespace Go.Proofs.YtpdmlemknomoeaaGreatDoor
/- THE CELL 'sum', in the pinned program and in every row, IS THE sha256 OF THE DUMP (.gsa) THAT YtpdmlemknomoeaaGreatDoorProg.lean LOADS. Nothing in Lean hashes anything: it is a label: what it is worth is what the hold of that sum in a sandbox is worth. -/
noncomputable def Tryz.pinned : Pinned := { name := "ytpdmlemknomoeaagreatdoor", sum := "deec5dc2cd9997a77a154be3199d96e0102f67a6554d28bacc7b84626c339310", checked := Tryz.checked }
namespace Rows
def none {H : Type} : Left H := { results := [], args := [] }

/- WHAT THE LISTED PACKAGE-LEVEL VARIABLES READ AS WHEN THE CALL BEGINS. Each datum BY PROGRAM (the guide's laid-datum.mjs) off the statement by which the dump's own 'gosem.cut.vars' lays the variable. In a bare row this is a premise. The card (YtpdmlemknomoeaaGreatDoorCards.lean) ties it to the program's text. -/
def laid_unicode_utf8_acceptRanges {H : Type} : DataW H := .agg [.agg [.lit (.int .u8 128), .lit (.int .u8 191)], .agg [.lit (.int .u8 160), .lit (.int .u8 191)], .agg [.lit (.int .u8 128), .lit (.int .u8 159)], .agg [.lit (.int .u8 144), .lit (.int .u8 191)], .agg [.lit (.int .u8 128), .lit (.int .u8 143)], .agg [.lit (.int .u8 0), .lit (.int .u8 0)], .agg [.lit (.int .u8 0), .lit (.int .u8 0)], .agg [.lit (.int .u8 0), .lit (.int .u8 0)], .agg [.lit (.int .u8 0), .lit (.int .u8 0)], .agg [.lit (.int .u8 0), .lit (.int .u8 0)], .agg [.lit (.int .u8 0), .lit (.int .u8 0)], .agg [.lit (.int .u8 0), .lit (.int .u8 0)], .agg [.lit (.int .u8 0), .lit (.int .u8 0)], .agg [.lit (.int .u8 0), .lit (.int .u8 0)], .agg [.lit (.int .u8 0), .lit (.int .u8 0)], .agg [.lit (.int .u8 0), .lit (.int .u8 0)]]
/-- One of Go's own tables, pinned by name: the form's constant. -/
def laid_unicode_utf8_first : DataW Unit := Go.Pinned.utf8First

/-- 'insolvencylaw22.DisputeSpoilt': WHATEVER THE INPUT: true; the input reads as it did. -/
def disputeSpoiltSpec : ChangeSpec := { name := "disputeSpoilt", fn := fun _ => fun
  | [d1, d2, d3, d4, d5, d6] => { results := [.lit (.bool true)], args := [d1, d2, d3, d4, d5, d6] }
  | _ => none }
def disputeSpoiltRow : OpenClaim := { program := "ytpdmlemknomoeaagreatdoor", sum := "deec5dc2cd9997a77a154be3199d96e0102f67a6554d28bacc7b84626c339310", func := "insolvency/insolvencylaw22.DisputeSpoilt", spec := "disputeSpoilt", inPlace := ["internal/bytealg.IndexByteString", "internal/bytealg.IndexString"], unfollowed := true, recurses := true, named := ["unicode/utf8.first", "unicode/utf8.acceptRanges", "internal/bytealg.MaxLen"], plainKeys := false, apart := false, laid := [("unicode/utf8.acceptRanges", laid_unicode_utf8_acceptRanges), ("unicode/utf8.first", laid_unicode_utf8_first)] }
def DisputeSpoiltSaid : Prop := disputeSpoiltRow.holds Tryz.pinned (OpenSpec.ofChange disputeSpoiltSpec)

/-- ITS FALSE NEIGHBOUR: 'it returns false'. Refute it at one input. -/
def disputeSpoiltWrong : ChangeSpec := { name := "disputeSpoilt", fn := fun _ => fun
  | [d1, d2, d3, d4, d5, d6] => { results := [.lit (.bool false)], args := [d1, d2, d3, d4, d5, d6] }
  | _ => none }
def DisputeSpoiltWrongFalsely : Prop := disputeSpoiltRow.holds Tryz.pinned (OpenSpec.ofChange disputeSpoiltWrong)

/-- 'insolvencylaw29.ClassCheck': WHATEVER THE INPUT: true; the input reads as it did. -/
def classCheckSpec : ChangeSpec := { name := "classCheck", fn := fun _ => fun
  | [d1, d2, d3, d4, d5, d6, d7] => { results := [.lit (.bool true)], args := [d1, d2, d3, d4, d5, d6, d7] }
  | _ => none }
def classCheckRow : OpenClaim := { program := "ytpdmlemknomoeaagreatdoor", sum := "deec5dc2cd9997a77a154be3199d96e0102f67a6554d28bacc7b84626c339310", func := "insolvency/insolvencylaw29.ClassCheck", spec := "classCheck", inPlace := ["internal/bytealg.IndexByteString", "internal/bytealg.IndexString", "internal/bytealg.abigen_runtime_cmpstring"], unfollowed := true, recurses := true, named := ["unicode/utf8.first", "unicode/utf8.acceptRanges", "internal/bytealg.MaxLen"], plainKeys := false, apart := false, laid := [("unicode/utf8.acceptRanges", laid_unicode_utf8_acceptRanges), ("unicode/utf8.first", laid_unicode_utf8_first)] }
def ClassCheckSaid : Prop := classCheckRow.holds Tryz.pinned (OpenSpec.ofChange classCheckSpec)

/-- ITS FALSE NEIGHBOUR: 'it returns false'. Refute it at one input. -/
def classCheckWrong : ChangeSpec := { name := "classCheck", fn := fun _ => fun
  | [d1, d2, d3, d4, d5, d6, d7] => { results := [.lit (.bool false)], args := [d1, d2, d3, d4, d5, d6, d7] }
  | _ => none }
def ClassCheckWrongFalsely : Prop := classCheckRow.holds Tryz.pinned (OpenSpec.ofChange classCheckWrong)

/-- 'insolvencylaw18.GuaranteeBroken': WHATEVER THE INPUT: true; the input reads as it did. -/
def guaranteeBrokenSpec : ChangeSpec := { name := "guaranteeBroken", fn := fun _ => fun
  | [d1, d2, d3, d4, d5, d6, d7] => { results := [.lit (.bool true)], args := [d1, d2, d3, d4, d5, d6, d7] }
  | _ => none }
def guaranteeBrokenRow : OpenClaim := { program := "ytpdmlemknomoeaagreatdoor", sum := "deec5dc2cd9997a77a154be3199d96e0102f67a6554d28bacc7b84626c339310", func := "insolvency/insolvencylaw18.GuaranteeBroken", spec := "guaranteeBroken", inPlace := ["internal/bytealg.IndexByteString", "internal/bytealg.IndexString", "internal/bytealg.abigen_runtime_cmpstring"], unfollowed := true, recurses := true, named := ["unicode/utf8.first", "unicode/utf8.acceptRanges", "internal/bytealg.MaxLen"], plainKeys := false, apart := false, laid := [("unicode/utf8.acceptRanges", laid_unicode_utf8_acceptRanges), ("unicode/utf8.first", laid_unicode_utf8_first)] }
def GuaranteeBrokenSaid : Prop := guaranteeBrokenRow.holds Tryz.pinned (OpenSpec.ofChange guaranteeBrokenSpec)

/-- ITS FALSE NEIGHBOUR: 'it returns false'. Refute it at one input. -/
def guaranteeBrokenWrong : ChangeSpec := { name := "guaranteeBroken", fn := fun _ => fun
  | [d1, d2, d3, d4, d5, d6, d7] => { results := [.lit (.bool false)], args := [d1, d2, d3, d4, d5, d6, d7] }
  | _ => none }
def GuaranteeBrokenWrongFalsely : Prop := guaranteeBrokenRow.holds Tryz.pinned (OpenSpec.ofChange guaranteeBrokenWrong)

/-- 'insolvencylaw22.DisputeApply': WHATEVER THE INPUT: true; the input reads as it did. -/
def disputeApplySpec : ChangeSpec := { name := "disputeApply", fn := fun _ => fun
  | [d1, d2, d3, d4, d5, d6, d7, d8, d9] => { results := [.lit (.bool true)], args := [d1, d2, d3, d4, d5, d6, d7, d8, d9] }
  | _ => none }
def disputeApplyRow : OpenClaim := { program := "ytpdmlemknomoeaagreatdoor", sum := "deec5dc2cd9997a77a154be3199d96e0102f67a6554d28bacc7b84626c339310", func := "insolvency/insolvencylaw22.DisputeApply", spec := "disputeApply", inPlace := ["internal/bytealg.IndexByteString", "internal/bytealg.IndexString"], unfollowed := true, recurses := true, named := ["unicode/utf8.first", "unicode/utf8.acceptRanges", "internal/bytealg.MaxLen"], plainKeys := false, apart := false, laid := [("unicode/utf8.acceptRanges", laid_unicode_utf8_acceptRanges), ("unicode/utf8.first", laid_unicode_utf8_first)] }
def DisputeApplySaid : Prop := disputeApplyRow.holds Tryz.pinned (OpenSpec.ofChange disputeApplySpec)

/-- ITS FALSE NEIGHBOUR: 'it returns false'. Refute it at one input. -/
def disputeApplyWrong : ChangeSpec := { name := "disputeApply", fn := fun _ => fun
  | [d1, d2, d3, d4, d5, d6, d7, d8, d9] => { results := [.lit (.bool false)], args := [d1, d2, d3, d4, d5, d6, d7, d8, d9] }
  | _ => none }
def DisputeApplyWrongFalsely : Prop := disputeApplyRow.holds Tryz.pinned (OpenSpec.ofChange disputeApplyWrong)

/-- 'insolvencylaw22.DisputeDecide': WHATEVER THE INPUT: true; the input reads as it did. -/
def disputeDecideSpec : ChangeSpec := { name := "disputeDecide", fn := fun _ => fun
  | [d1, d2, d3, d4, d5, d6, d7, d8] => { results := [.lit (.bool true)], args := [d1, d2, d3, d4, d5, d6, d7, d8] }
  | _ => none }
def disputeDecideRow : OpenClaim := { program := "ytpdmlemknomoeaagreatdoor", sum := "deec5dc2cd9997a77a154be3199d96e0102f67a6554d28bacc7b84626c339310", func := "insolvency/insolvencylaw22.DisputeDecide", spec := "disputeDecide", inPlace := ["internal/bytealg.IndexByteString", "internal/bytealg.IndexString"], unfollowed := true, recurses := true, named := ["unicode/utf8.first", "unicode/utf8.acceptRanges", "internal/bytealg.MaxLen"], plainKeys := false, apart := false, laid := [("unicode/utf8.acceptRanges", laid_unicode_utf8_acceptRanges), ("unicode/utf8.first", laid_unicode_utf8_first)] }
def DisputeDecideSaid : Prop := disputeDecideRow.holds Tryz.pinned (OpenSpec.ofChange disputeDecideSpec)

/-- ITS FALSE NEIGHBOUR: 'it returns false'. Refute it at one input. -/
def disputeDecideWrong : ChangeSpec := { name := "disputeDecide", fn := fun _ => fun
  | [d1, d2, d3, d4, d5, d6, d7, d8] => { results := [.lit (.bool false)], args := [d1, d2, d3, d4, d5, d6, d7, d8] }
  | _ => none }
def DisputeDecideWrongFalsely : Prop := disputeDecideRow.holds Tryz.pinned (OpenSpec.ofChange disputeDecideWrong)

/-- 'insolvencylaw22.DisputeOrder': WHATEVER THE INPUT: true; the input reads as it did. -/
def disputeOrderSpec : ChangeSpec := { name := "disputeOrder", fn := fun _ => fun
  | [d1, d2, d3, d4, d5, d6] => { results := [.lit (.bool true)], args := [d1, d2, d3, d4, d5, d6] }
  | _ => none }
def disputeOrderRow : OpenClaim := { program := "ytpdmlemknomoeaagreatdoor", sum := "deec5dc2cd9997a77a154be3199d96e0102f67a6554d28bacc7b84626c339310", func := "insolvency/insolvencylaw22.DisputeOrder", spec := "disputeOrder", inPlace := ["internal/bytealg.IndexByteString", "internal/bytealg.IndexString"], unfollowed := true, recurses := true, named := ["unicode/utf8.first", "unicode/utf8.acceptRanges", "internal/bytealg.MaxLen"], plainKeys := false, apart := false, laid := [("unicode/utf8.acceptRanges", laid_unicode_utf8_acceptRanges), ("unicode/utf8.first", laid_unicode_utf8_first)] }
def DisputeOrderSaid : Prop := disputeOrderRow.holds Tryz.pinned (OpenSpec.ofChange disputeOrderSpec)

/-- ITS FALSE NEIGHBOUR: 'it returns false'. Refute it at one input. -/
def disputeOrderWrong : ChangeSpec := { name := "disputeOrder", fn := fun _ => fun
  | [d1, d2, d3, d4, d5, d6] => { results := [.lit (.bool false)], args := [d1, d2, d3, d4, d5, d6] }
  | _ => none }
def DisputeOrderWrongFalsely : Prop := disputeOrderRow.holds Tryz.pinned (OpenSpec.ofChange disputeOrderWrong)

/- THE SECOND FORM. 'bulk': how many values and letters a reading holds, each counted each time it is reached (what is shared counts as often as it is met; a slice's spare places count too). A statement '..UptoSaid' is the law's where the arguments, and the package variables that the reading takes, are together of bulk at most 1048576: NARROWER than '..Said'. Prove '..Said' where nothing that the law and all that it calls make is longer than what came in: it says more and counts as full. Else prove '..UptoSaid'. A law counts once. -/
mutual
def uptoBulk {H : Type} : DataW H → Nat
  | .lit (.string bytes) => bytes.length + 1
  | .lit _ => 1
  | .nil => 1
  | .ptr d => uptoBulk d + 1
  | .slice elems spare => uptoBulkAll elems + uptoBulkAll spare + 1
  | .agg parts => uptoBulkAll parts + 1
  | .iface _ d => uptoBulk d + 1
  | .map entries => uptoBulkEntries entries + 1
  | .held _ => 1
def uptoBulkAll {H : Type} : List (DataW H) → Nat
  | [] => 0
  | d :: r => uptoBulk d + uptoBulkAll r
def uptoBulkEntries {H : Type} : List (Lit × DataW H) → Nat
  | [] => 0
  | x :: r => uptoBulkEntry x + uptoBulkEntries r
def uptoBulkEntry {H : Type} : Lit × DataW H → Nat
  | (.string bytes, d) => bytes.length + uptoBulk d + 1
  | (_, d) => uptoBulk d + 1
 end
def uptoSmall : (H : Type) → List (DataW H) → Bool := fun _ ds => decide (uptoBulkAll ds ≤ 1048576)
def OpenSpec.upto (s : _root_.Go.ChangeSpec) : _root_.Go.OpenSpec := { _root_.Go.OpenSpec.ofChange s with cond := some uptoSmall }

/-- 'insolvencylaw22.DisputeSpoilt', WHERE WHAT IT READS IS OF BULK AT MOST 1048576: true; the input reads as it did. -/
def disputeSpoiltUptoRow : OpenClaim := { program := "ytpdmlemknomoeaagreatdoor", sum := "deec5dc2cd9997a77a154be3199d96e0102f67a6554d28bacc7b84626c339310", func := "insolvency/insolvencylaw22.DisputeSpoilt", spec := "disputeSpoilt", inPlace := ["internal/bytealg.IndexByteString", "internal/bytealg.IndexString"], unfollowed := true, recurses := true, named := ["unicode/utf8.first", "unicode/utf8.acceptRanges", "internal/bytealg.MaxLen"], plainKeys := false, apart := false, laid := [("unicode/utf8.acceptRanges", laid_unicode_utf8_acceptRanges), ("unicode/utf8.first", laid_unicode_utf8_first)], narrowed := true }
def DisputeSpoiltUptoSaid : Prop := disputeSpoiltUptoRow.holds Tryz.pinned (OpenSpec.upto disputeSpoiltSpec)

/-- 'insolvencylaw29.ClassCheck', WHERE WHAT IT READS IS OF BULK AT MOST 1048576: true; the input reads as it did. -/
def classCheckUptoRow : OpenClaim := { program := "ytpdmlemknomoeaagreatdoor", sum := "deec5dc2cd9997a77a154be3199d96e0102f67a6554d28bacc7b84626c339310", func := "insolvency/insolvencylaw29.ClassCheck", spec := "classCheck", inPlace := ["internal/bytealg.IndexByteString", "internal/bytealg.IndexString", "internal/bytealg.abigen_runtime_cmpstring"], unfollowed := true, recurses := true, named := ["unicode/utf8.first", "unicode/utf8.acceptRanges", "internal/bytealg.MaxLen"], plainKeys := false, apart := false, laid := [("unicode/utf8.acceptRanges", laid_unicode_utf8_acceptRanges), ("unicode/utf8.first", laid_unicode_utf8_first)], narrowed := true }
def ClassCheckUptoSaid : Prop := classCheckUptoRow.holds Tryz.pinned (OpenSpec.upto classCheckSpec)

/-- 'insolvencylaw18.GuaranteeBroken', WHERE WHAT IT READS IS OF BULK AT MOST 1048576: true; the input reads as it did. -/
def guaranteeBrokenUptoRow : OpenClaim := { program := "ytpdmlemknomoeaagreatdoor", sum := "deec5dc2cd9997a77a154be3199d96e0102f67a6554d28bacc7b84626c339310", func := "insolvency/insolvencylaw18.GuaranteeBroken", spec := "guaranteeBroken", inPlace := ["internal/bytealg.IndexByteString", "internal/bytealg.IndexString", "internal/bytealg.abigen_runtime_cmpstring"], unfollowed := true, recurses := true, named := ["unicode/utf8.first", "unicode/utf8.acceptRanges", "internal/bytealg.MaxLen"], plainKeys := false, apart := false, laid := [("unicode/utf8.acceptRanges", laid_unicode_utf8_acceptRanges), ("unicode/utf8.first", laid_unicode_utf8_first)], narrowed := true }
def GuaranteeBrokenUptoSaid : Prop := guaranteeBrokenUptoRow.holds Tryz.pinned (OpenSpec.upto guaranteeBrokenSpec)

/-- 'insolvencylaw22.DisputeApply', WHERE WHAT IT READS IS OF BULK AT MOST 1048576: true; the input reads as it did. -/
def disputeApplyUptoRow : OpenClaim := { program := "ytpdmlemknomoeaagreatdoor", sum := "deec5dc2cd9997a77a154be3199d96e0102f67a6554d28bacc7b84626c339310", func := "insolvency/insolvencylaw22.DisputeApply", spec := "disputeApply", inPlace := ["internal/bytealg.IndexByteString", "internal/bytealg.IndexString"], unfollowed := true, recurses := true, named := ["unicode/utf8.first", "unicode/utf8.acceptRanges", "internal/bytealg.MaxLen"], plainKeys := false, apart := false, laid := [("unicode/utf8.acceptRanges", laid_unicode_utf8_acceptRanges), ("unicode/utf8.first", laid_unicode_utf8_first)], narrowed := true }
def DisputeApplyUptoSaid : Prop := disputeApplyUptoRow.holds Tryz.pinned (OpenSpec.upto disputeApplySpec)

/-- 'insolvencylaw22.DisputeDecide', WHERE WHAT IT READS IS OF BULK AT MOST 1048576: true; the input reads as it did. -/
def disputeDecideUptoRow : OpenClaim := { program := "ytpdmlemknomoeaagreatdoor", sum := "deec5dc2cd9997a77a154be3199d96e0102f67a6554d28bacc7b84626c339310", func := "insolvency/insolvencylaw22.DisputeDecide", spec := "disputeDecide", inPlace := ["internal/bytealg.IndexByteString", "internal/bytealg.IndexString"], unfollowed := true, recurses := true, named := ["unicode/utf8.first", "unicode/utf8.acceptRanges", "internal/bytealg.MaxLen"], plainKeys := false, apart := false, laid := [("unicode/utf8.acceptRanges", laid_unicode_utf8_acceptRanges), ("unicode/utf8.first", laid_unicode_utf8_first)], narrowed := true }
def DisputeDecideUptoSaid : Prop := disputeDecideUptoRow.holds Tryz.pinned (OpenSpec.upto disputeDecideSpec)

/-- 'insolvencylaw22.DisputeOrder', WHERE WHAT IT READS IS OF BULK AT MOST 1048576: true; the input reads as it did. -/
def disputeOrderUptoRow : OpenClaim := { program := "ytpdmlemknomoeaagreatdoor", sum := "deec5dc2cd9997a77a154be3199d96e0102f67a6554d28bacc7b84626c339310", func := "insolvency/insolvencylaw22.DisputeOrder", spec := "disputeOrder", inPlace := ["internal/bytealg.IndexByteString", "internal/bytealg.IndexString"], unfollowed := true, recurses := true, named := ["unicode/utf8.first", "unicode/utf8.acceptRanges", "internal/bytealg.MaxLen"], plainKeys := false, apart := false, laid := [("unicode/utf8.acceptRanges", laid_unicode_utf8_acceptRanges), ("unicode/utf8.first", laid_unicode_utf8_first)], narrowed := true }
def DisputeOrderUptoSaid : Prop := disputeOrderUptoRow.holds Tryz.pinned (OpenSpec.upto disputeOrderSpec)

end Rows
end Go.Proofs.YtpdmlemknomoeaaGreatDoor
