/-
  NARROWER THAN 'FOR EVERY INPUT', by the rows' own cells (each row's printed sentence says how): DisputeCheck: laid · DisputeSpoilt: laid · ClassForm: laid · ClassMany: laid · ClassCheck: laid · GuaranteeBroken: laid · GuaranteeCheck: laid · GuaranteeBuilt: laid · ClassSum: laid · ClassSound: laid.
  DERIVED. THE GIVEN ROWS OF THIS SEAT. 10 by the template 'for every input the law returns true; each argument reads behind the call as it read before'; 0 by the template 'total and deterministic' (their statements: YtogeijhepjcbgaaGreatDoorTotals.lean).
  GIVEN WITH THE SEED: the statements are not yours to turn. If you find one false, say at which input.
  Laid BY PROGRAM, IN A SANDBOX (cutbox-rows.mjs): the forced cells as the released guide's own fill.sh prints them over the translation 40925d402bf535e7… (all of the seat's roots in one cut). By AI agents, Wed Nov 11 2026. No macro, syntax, notation, axiom, sorry.
-/
import Derived.Test.YtogeijhepjcbgaaGreatDoorChecked
import GoSem.PinnedTables
import GoSem.Claim
import GoSem.ClaimJoined
import GoSem.ClaimMapViews
import Derived.JoinedTies
import Derived.KernelRfl
namespace Go.Proofs.YtogeijhepjcbgaaGreatDoor
/- THE CELL 'sum', in the pinned program and in every row, IS THE sha256 OF THE DUMP (.gsa) THAT YtogeijhepjcbgaaGreatDoorProg.lean LOADS. Nothing in Lean hashes anything: it is a label: what it is worth is what the hold of that sum in a sandbox is worth. -/
noncomputable def Tryz.pinned : Pinned := { name := "ytogeijhepjcbgaagreatdoor", sum := "40925d402bf535e762b2382e66faf325bf97fcda695531e9ce13f396cd67ba7b", checked := Tryz.checked }
namespace Rows
def none {H : Type} : Left H := { results := [], args := [] }

/- WHAT THE LISTED PACKAGE-LEVEL VARIABLES READ AS WHEN THE CALL BEGINS. Each datum BY PROGRAM (the guide's laid-datum.mjs) off the statement by which the dump's own 'gosem.cut.vars' lays the variable. In a bare row this is a premise. The card (YtogeijhepjcbgaaGreatDoorCards.lean) ties it to the program's text. -/
def laid_unicode_utf8_acceptRanges {H : Type} : DataW H := .agg [.agg [.lit (.int .u8 128), .lit (.int .u8 191)], .agg [.lit (.int .u8 160), .lit (.int .u8 191)], .agg [.lit (.int .u8 128), .lit (.int .u8 159)], .agg [.lit (.int .u8 144), .lit (.int .u8 191)], .agg [.lit (.int .u8 128), .lit (.int .u8 143)], .agg [.lit (.int .u8 0), .lit (.int .u8 0)], .agg [.lit (.int .u8 0), .lit (.int .u8 0)], .agg [.lit (.int .u8 0), .lit (.int .u8 0)], .agg [.lit (.int .u8 0), .lit (.int .u8 0)], .agg [.lit (.int .u8 0), .lit (.int .u8 0)], .agg [.lit (.int .u8 0), .lit (.int .u8 0)], .agg [.lit (.int .u8 0), .lit (.int .u8 0)], .agg [.lit (.int .u8 0), .lit (.int .u8 0)], .agg [.lit (.int .u8 0), .lit (.int .u8 0)], .agg [.lit (.int .u8 0), .lit (.int .u8 0)], .agg [.lit (.int .u8 0), .lit (.int .u8 0)]]
/-- One of Go's own tables, pinned by name: the form's constant. -/
def laid_unicode_utf8_first : DataW Unit := Go.Pinned.utf8First

/-- 'insolvencylaw22.DisputeCheck': WHATEVER THE INPUT: true; the input reads as it did. -/
def disputeCheckSpec : ChangeSpec := { name := "disputeCheck", fn := fun _ => fun
  | [d1, d2, d3, d4] => { results := [.lit (.bool true)], args := [d1, d2, d3, d4] }
  | _ => none }
def disputeCheckRow : OpenClaim := { program := "ytogeijhepjcbgaagreatdoor", sum := "40925d402bf535e762b2382e66faf325bf97fcda695531e9ce13f396cd67ba7b", func := "insolvency/insolvencylaw22.DisputeCheck", spec := "disputeCheck", inPlace := ["internal/bytealg.IndexByteString", "internal/bytealg.IndexString"], unfollowed := true, recurses := true, named := ["unicode/utf8.first", "unicode/utf8.acceptRanges", "internal/bytealg.MaxLen"], plainKeys := false, apart := false, laid := [("unicode/utf8.acceptRanges", laid_unicode_utf8_acceptRanges), ("unicode/utf8.first", laid_unicode_utf8_first)] }
def DisputeCheckSaid : Prop := disputeCheckRow.holds Tryz.pinned (OpenSpec.ofChange disputeCheckSpec)

/-- ITS FALSE NEIGHBOUR: 'it returns false'. Refute it at one input. -/
def disputeCheckWrong : ChangeSpec := { name := "disputeCheck", fn := fun _ => fun
  | [d1, d2, d3, d4] => { results := [.lit (.bool false)], args := [d1, d2, d3, d4] }
  | _ => none }
def DisputeCheckWrongFalsely : Prop := disputeCheckRow.holds Tryz.pinned (OpenSpec.ofChange disputeCheckWrong)

/-- 'insolvencylaw22.DisputeSpoilt': WHATEVER THE INPUT: true; the input reads as it did. -/
def disputeSpoiltSpec : ChangeSpec := { name := "disputeSpoilt", fn := fun _ => fun
  | [d1, d2, d3, d4, d5, d6] => { results := [.lit (.bool true)], args := [d1, d2, d3, d4, d5, d6] }
  | _ => none }
def disputeSpoiltRow : OpenClaim := { program := "ytogeijhepjcbgaagreatdoor", sum := "40925d402bf535e762b2382e66faf325bf97fcda695531e9ce13f396cd67ba7b", func := "insolvency/insolvencylaw22.DisputeSpoilt", spec := "disputeSpoilt", inPlace := ["internal/bytealg.IndexByteString", "internal/bytealg.IndexString"], unfollowed := true, recurses := true, named := ["unicode/utf8.first", "unicode/utf8.acceptRanges", "internal/bytealg.MaxLen"], plainKeys := false, apart := false, laid := [("unicode/utf8.acceptRanges", laid_unicode_utf8_acceptRanges), ("unicode/utf8.first", laid_unicode_utf8_first)] }
def DisputeSpoiltSaid : Prop := disputeSpoiltRow.holds Tryz.pinned (OpenSpec.ofChange disputeSpoiltSpec)

/-- ITS FALSE NEIGHBOUR: 'it returns false'. Refute it at one input. -/
def disputeSpoiltWrong : ChangeSpec := { name := "disputeSpoilt", fn := fun _ => fun
  | [d1, d2, d3, d4, d5, d6] => { results := [.lit (.bool false)], args := [d1, d2, d3, d4, d5, d6] }
  | _ => none }
def DisputeSpoiltWrongFalsely : Prop := disputeSpoiltRow.holds Tryz.pinned (OpenSpec.ofChange disputeSpoiltWrong)

/-- 'insolvencylaw29.ClassForm': WHATEVER THE INPUT: true; the input reads as it did. -/
def classFormSpec : ChangeSpec := { name := "classForm", fn := fun _ => fun
  | [d1, d2, d3, d4, d5, d6, d7] => { results := [.lit (.bool true)], args := [d1, d2, d3, d4, d5, d6, d7] }
  | _ => none }
def classFormRow : OpenClaim := { program := "ytogeijhepjcbgaagreatdoor", sum := "40925d402bf535e762b2382e66faf325bf97fcda695531e9ce13f396cd67ba7b", func := "insolvency/insolvencylaw29.ClassForm", spec := "classForm", inPlace := ["internal/bytealg.IndexByteString", "internal/bytealg.IndexString", "internal/bytealg.abigen_runtime_cmpstring"], unfollowed := true, recurses := true, named := ["unicode/utf8.first", "unicode/utf8.acceptRanges", "internal/bytealg.MaxLen"], plainKeys := false, apart := false, laid := [("unicode/utf8.acceptRanges", laid_unicode_utf8_acceptRanges), ("unicode/utf8.first", laid_unicode_utf8_first)] }
def ClassFormSaid : Prop := classFormRow.holds Tryz.pinned (OpenSpec.ofChange classFormSpec)

/-- ITS FALSE NEIGHBOUR: 'it returns false'. Refute it at one input. -/
def classFormWrong : ChangeSpec := { name := "classForm", fn := fun _ => fun
  | [d1, d2, d3, d4, d5, d6, d7] => { results := [.lit (.bool false)], args := [d1, d2, d3, d4, d5, d6, d7] }
  | _ => none }
def ClassFormWrongFalsely : Prop := classFormRow.holds Tryz.pinned (OpenSpec.ofChange classFormWrong)

/-- 'insolvencylaw29.ClassMany': WHATEVER THE INPUT: true; the input reads as it did. -/
def classManySpec : ChangeSpec := { name := "classMany", fn := fun _ => fun
  | [d1, d2, d3] => { results := [.lit (.bool true)], args := [d1, d2, d3] }
  | _ => none }
def classManyRow : OpenClaim := { program := "ytogeijhepjcbgaagreatdoor", sum := "40925d402bf535e762b2382e66faf325bf97fcda695531e9ce13f396cd67ba7b", func := "insolvency/insolvencylaw29.ClassMany", spec := "classMany", inPlace := ["internal/bytealg.IndexByteString", "internal/bytealg.IndexString", "internal/bytealg.abigen_runtime_cmpstring"], unfollowed := true, recurses := true, named := ["unicode/utf8.first", "unicode/utf8.acceptRanges", "internal/bytealg.MaxLen"], plainKeys := false, apart := false, laid := [("unicode/utf8.acceptRanges", laid_unicode_utf8_acceptRanges), ("unicode/utf8.first", laid_unicode_utf8_first)] }
def ClassManySaid : Prop := classManyRow.holds Tryz.pinned (OpenSpec.ofChange classManySpec)

/-- ITS FALSE NEIGHBOUR: 'it returns false'. Refute it at one input. -/
def classManyWrong : ChangeSpec := { name := "classMany", fn := fun _ => fun
  | [d1, d2, d3] => { results := [.lit (.bool false)], args := [d1, d2, d3] }
  | _ => none }
def ClassManyWrongFalsely : Prop := classManyRow.holds Tryz.pinned (OpenSpec.ofChange classManyWrong)

/-- 'insolvencylaw29.ClassCheck': WHATEVER THE INPUT: true; the input reads as it did. -/
def classCheckSpec : ChangeSpec := { name := "classCheck", fn := fun _ => fun
  | [d1, d2, d3, d4, d5, d6, d7] => { results := [.lit (.bool true)], args := [d1, d2, d3, d4, d5, d6, d7] }
  | _ => none }
def classCheckRow : OpenClaim := { program := "ytogeijhepjcbgaagreatdoor", sum := "40925d402bf535e762b2382e66faf325bf97fcda695531e9ce13f396cd67ba7b", func := "insolvency/insolvencylaw29.ClassCheck", spec := "classCheck", inPlace := ["internal/bytealg.IndexByteString", "internal/bytealg.IndexString", "internal/bytealg.abigen_runtime_cmpstring"], unfollowed := true, recurses := true, named := ["unicode/utf8.first", "unicode/utf8.acceptRanges", "internal/bytealg.MaxLen"], plainKeys := false, apart := false, laid := [("unicode/utf8.acceptRanges", laid_unicode_utf8_acceptRanges), ("unicode/utf8.first", laid_unicode_utf8_first)] }
def ClassCheckSaid : Prop := classCheckRow.holds Tryz.pinned (OpenSpec.ofChange classCheckSpec)

/-- ITS FALSE NEIGHBOUR: 'it returns false'. Refute it at one input. -/
def classCheckWrong : ChangeSpec := { name := "classCheck", fn := fun _ => fun
  | [d1, d2, d3, d4, d5, d6, d7] => { results := [.lit (.bool false)], args := [d1, d2, d3, d4, d5, d6, d7] }
  | _ => none }
def ClassCheckWrongFalsely : Prop := classCheckRow.holds Tryz.pinned (OpenSpec.ofChange classCheckWrong)

/-- 'insolvencylaw18.GuaranteeBroken': WHATEVER THE INPUT: true; the input reads as it did. -/
def guaranteeBrokenSpec : ChangeSpec := { name := "guaranteeBroken", fn := fun _ => fun
  | [d1, d2, d3, d4, d5, d6, d7] => { results := [.lit (.bool true)], args := [d1, d2, d3, d4, d5, d6, d7] }
  | _ => none }
def guaranteeBrokenRow : OpenClaim := { program := "ytogeijhepjcbgaagreatdoor", sum := "40925d402bf535e762b2382e66faf325bf97fcda695531e9ce13f396cd67ba7b", func := "insolvency/insolvencylaw18.GuaranteeBroken", spec := "guaranteeBroken", inPlace := ["internal/bytealg.IndexByteString", "internal/bytealg.IndexString", "internal/bytealg.abigen_runtime_cmpstring"], unfollowed := true, recurses := true, named := ["unicode/utf8.first", "unicode/utf8.acceptRanges", "internal/bytealg.MaxLen"], plainKeys := false, apart := false, laid := [("unicode/utf8.acceptRanges", laid_unicode_utf8_acceptRanges), ("unicode/utf8.first", laid_unicode_utf8_first)] }
def GuaranteeBrokenSaid : Prop := guaranteeBrokenRow.holds Tryz.pinned (OpenSpec.ofChange guaranteeBrokenSpec)

/-- ITS FALSE NEIGHBOUR: 'it returns false'. Refute it at one input. -/
def guaranteeBrokenWrong : ChangeSpec := { name := "guaranteeBroken", fn := fun _ => fun
  | [d1, d2, d3, d4, d5, d6, d7] => { results := [.lit (.bool false)], args := [d1, d2, d3, d4, d5, d6, d7] }
  | _ => none }
def GuaranteeBrokenWrongFalsely : Prop := guaranteeBrokenRow.holds Tryz.pinned (OpenSpec.ofChange guaranteeBrokenWrong)

/-- 'insolvencylaw18.GuaranteeCheck': WHATEVER THE INPUT: true; the input reads as it did. -/
def guaranteeCheckSpec : ChangeSpec := { name := "guaranteeCheck", fn := fun _ => fun
  | [d1, d2, d3] => { results := [.lit (.bool true)], args := [d1, d2, d3] }
  | _ => none }
def guaranteeCheckRow : OpenClaim := { program := "ytogeijhepjcbgaagreatdoor", sum := "40925d402bf535e762b2382e66faf325bf97fcda695531e9ce13f396cd67ba7b", func := "insolvency/insolvencylaw18.GuaranteeCheck", spec := "guaranteeCheck", inPlace := ["internal/bytealg.IndexByteString", "internal/bytealg.IndexString", "internal/bytealg.abigen_runtime_cmpstring"], unfollowed := true, recurses := true, named := ["unicode/utf8.first", "unicode/utf8.acceptRanges", "internal/bytealg.MaxLen"], plainKeys := false, apart := false, laid := [("unicode/utf8.acceptRanges", laid_unicode_utf8_acceptRanges), ("unicode/utf8.first", laid_unicode_utf8_first)] }
def GuaranteeCheckSaid : Prop := guaranteeCheckRow.holds Tryz.pinned (OpenSpec.ofChange guaranteeCheckSpec)

/-- ITS FALSE NEIGHBOUR: 'it returns false'. Refute it at one input. -/
def guaranteeCheckWrong : ChangeSpec := { name := "guaranteeCheck", fn := fun _ => fun
  | [d1, d2, d3] => { results := [.lit (.bool false)], args := [d1, d2, d3] }
  | _ => none }
def GuaranteeCheckWrongFalsely : Prop := guaranteeCheckRow.holds Tryz.pinned (OpenSpec.ofChange guaranteeCheckWrong)

/-- 'insolvencylaw18.GuaranteeBuilt': WHATEVER THE INPUT: true; the input reads as it did. -/
def guaranteeBuiltSpec : ChangeSpec := { name := "guaranteeBuilt", fn := fun _ => fun
  | [d1, d2, d3, d4, d5] => { results := [.lit (.bool true)], args := [d1, d2, d3, d4, d5] }
  | _ => none }
def guaranteeBuiltRow : OpenClaim := { program := "ytogeijhepjcbgaagreatdoor", sum := "40925d402bf535e762b2382e66faf325bf97fcda695531e9ce13f396cd67ba7b", func := "insolvency/insolvencylaw18.GuaranteeBuilt", spec := "guaranteeBuilt", inPlace := ["internal/bytealg.IndexByteString", "internal/bytealg.IndexString", "internal/bytealg.abigen_runtime_cmpstring"], unfollowed := true, recurses := true, named := ["unicode/utf8.first", "unicode/utf8.acceptRanges", "internal/bytealg.MaxLen"], plainKeys := false, apart := false, laid := [("unicode/utf8.acceptRanges", laid_unicode_utf8_acceptRanges), ("unicode/utf8.first", laid_unicode_utf8_first)] }
def GuaranteeBuiltSaid : Prop := guaranteeBuiltRow.holds Tryz.pinned (OpenSpec.ofChange guaranteeBuiltSpec)

/-- ITS FALSE NEIGHBOUR: 'it returns false'. Refute it at one input. -/
def guaranteeBuiltWrong : ChangeSpec := { name := "guaranteeBuilt", fn := fun _ => fun
  | [d1, d2, d3, d4, d5] => { results := [.lit (.bool false)], args := [d1, d2, d3, d4, d5] }
  | _ => none }
def GuaranteeBuiltWrongFalsely : Prop := guaranteeBuiltRow.holds Tryz.pinned (OpenSpec.ofChange guaranteeBuiltWrong)

/-- 'insolvencylaw29.ClassSum': WHATEVER THE INPUT: true; the input reads as it did. -/
def classSumSpec : ChangeSpec := { name := "classSum", fn := fun _ => fun
  | [d1, d2, d3, d4, d5, d6] => { results := [.lit (.bool true)], args := [d1, d2, d3, d4, d5, d6] }
  | _ => none }
def classSumRow : OpenClaim := { program := "ytogeijhepjcbgaagreatdoor", sum := "40925d402bf535e762b2382e66faf325bf97fcda695531e9ce13f396cd67ba7b", func := "insolvency/insolvencylaw29.ClassSum", spec := "classSum", inPlace := ["internal/bytealg.IndexByteString", "internal/bytealg.IndexString", "internal/bytealg.abigen_runtime_cmpstring"], unfollowed := true, recurses := true, named := ["unicode/utf8.first", "unicode/utf8.acceptRanges", "internal/bytealg.MaxLen"], plainKeys := false, apart := false, laid := [("unicode/utf8.acceptRanges", laid_unicode_utf8_acceptRanges), ("unicode/utf8.first", laid_unicode_utf8_first)] }
def ClassSumSaid : Prop := classSumRow.holds Tryz.pinned (OpenSpec.ofChange classSumSpec)

/-- ITS FALSE NEIGHBOUR: 'it returns false'. Refute it at one input. -/
def classSumWrong : ChangeSpec := { name := "classSum", fn := fun _ => fun
  | [d1, d2, d3, d4, d5, d6] => { results := [.lit (.bool false)], args := [d1, d2, d3, d4, d5, d6] }
  | _ => none }
def ClassSumWrongFalsely : Prop := classSumRow.holds Tryz.pinned (OpenSpec.ofChange classSumWrong)

/-- 'insolvencylaw29.ClassSound': WHATEVER THE INPUT: true; the input reads as it did. -/
def classSoundSpec : ChangeSpec := { name := "classSound", fn := fun _ => fun
  | [d1, d2, d3, d4, d5, d6, d7] => { results := [.lit (.bool true)], args := [d1, d2, d3, d4, d5, d6, d7] }
  | _ => none }
def classSoundRow : OpenClaim := { program := "ytogeijhepjcbgaagreatdoor", sum := "40925d402bf535e762b2382e66faf325bf97fcda695531e9ce13f396cd67ba7b", func := "insolvency/insolvencylaw29.ClassSound", spec := "classSound", inPlace := ["internal/bytealg.IndexByteString", "internal/bytealg.IndexString", "internal/bytealg.abigen_runtime_cmpstring"], unfollowed := true, recurses := true, named := ["unicode/utf8.first", "unicode/utf8.acceptRanges", "internal/bytealg.MaxLen"], plainKeys := false, apart := false, laid := [("unicode/utf8.acceptRanges", laid_unicode_utf8_acceptRanges), ("unicode/utf8.first", laid_unicode_utf8_first)] }
def ClassSoundSaid : Prop := classSoundRow.holds Tryz.pinned (OpenSpec.ofChange classSoundSpec)

/-- ITS FALSE NEIGHBOUR: 'it returns false'. Refute it at one input. -/
def classSoundWrong : ChangeSpec := { name := "classSound", fn := fun _ => fun
  | [d1, d2, d3, d4, d5, d6, d7] => { results := [.lit (.bool false)], args := [d1, d2, d3, d4, d5, d6, d7] }
  | _ => none }
def ClassSoundWrongFalsely : Prop := classSoundRow.holds Tryz.pinned (OpenSpec.ofChange classSoundWrong)

/- THE SECOND FORM. 'bulk': how many values and letters a reading holds, each counted each time it is reached (what is shared counts as often as it is met; a slice's spare places count too). A statement '..UptoSaid' is the law's where the arguments, and the package variables that the reading takes, are together of bulk at most 1048576: NARROWER than '..Said'. Prove '..Said' where nothing that the law and all that it calls make is longer than what came in: it says more and counts as full. Else prove '..UptoSaid'. A law counts once. -/
mutual
def uptoBulk {H : Type} : DataW H → Nat
  | .lit (.string bytes) => bytes.length + 1
  | .lit _ => 1
  | .nil => 1
  | .ptr d => uptoBulk d + 1
  | .slice elems spare => uptoBulkAll elems + uptoBulkAll spare + 1
  | .agg parts => uptoBulkAll parts + 1
  | .iface _ d => uptoBulk d + 1
  | .map entries => uptoBulkEntries entries + 1
  | .held _ => 1
def uptoBulkAll {H : Type} : List (DataW H) → Nat
  | [] => 0
  | d :: r => uptoBulk d + uptoBulkAll r
def uptoBulkEntries {H : Type} : List (Lit × DataW H) → Nat
  | [] => 0
  | x :: r => uptoBulkEntry x + uptoBulkEntries r
def uptoBulkEntry {H : Type} : Lit × DataW H → Nat
  | (.string bytes, d) => bytes.length + uptoBulk d + 1
  | (_, d) => uptoBulk d + 1
 end
def uptoSmall : (H : Type) → List (DataW H) → Bool := fun _ ds => decide (uptoBulkAll ds ≤ 1048576)
def OpenSpec.upto (s : _root_.Go.ChangeSpec) : _root_.Go.OpenSpec := { _root_.Go.OpenSpec.ofChange s with cond := some uptoSmall }

/-- 'insolvencylaw22.DisputeCheck', WHERE WHAT IT READS IS OF BULK AT MOST 1048576: true; the input reads as it did. -/
def disputeCheckUptoRow : OpenClaim := { program := "ytogeijhepjcbgaagreatdoor", sum := "40925d402bf535e762b2382e66faf325bf97fcda695531e9ce13f396cd67ba7b", func := "insolvency/insolvencylaw22.DisputeCheck", spec := "disputeCheck", inPlace := ["internal/bytealg.IndexByteString", "internal/bytealg.IndexString"], unfollowed := true, recurses := true, named := ["unicode/utf8.first", "unicode/utf8.acceptRanges", "internal/bytealg.MaxLen"], plainKeys := false, apart := false, laid := [("unicode/utf8.acceptRanges", laid_unicode_utf8_acceptRanges), ("unicode/utf8.first", laid_unicode_utf8_first)], narrowed := true }
def DisputeCheckUptoSaid : Prop := disputeCheckUptoRow.holds Tryz.pinned (OpenSpec.upto disputeCheckSpec)

/-- 'insolvencylaw22.DisputeSpoilt', WHERE WHAT IT READS IS OF BULK AT MOST 1048576: true; the input reads as it did. -/
def disputeSpoiltUptoRow : OpenClaim := { program := "ytogeijhepjcbgaagreatdoor", sum := "40925d402bf535e762b2382e66faf325bf97fcda695531e9ce13f396cd67ba7b", func := "insolvency/insolvencylaw22.DisputeSpoilt", spec := "disputeSpoilt", inPlace := ["internal/bytealg.IndexByteString", "internal/bytealg.IndexString"], unfollowed := true, recurses := true, named := ["unicode/utf8.first", "unicode/utf8.acceptRanges", "internal/bytealg.MaxLen"], plainKeys := false, apart := false, laid := [("unicode/utf8.acceptRanges", laid_unicode_utf8_acceptRanges), ("unicode/utf8.first", laid_unicode_utf8_first)], narrowed := true }
def DisputeSpoiltUptoSaid : Prop := disputeSpoiltUptoRow.holds Tryz.pinned (OpenSpec.upto disputeSpoiltSpec)

/-- 'insolvencylaw29.ClassForm', WHERE WHAT IT READS IS OF BULK AT MOST 1048576: true; the input reads as it did. -/
def classFormUptoRow : OpenClaim := { program := "ytogeijhepjcbgaagreatdoor", sum := "40925d402bf535e762b2382e66faf325bf97fcda695531e9ce13f396cd67ba7b", func := "insolvency/insolvencylaw29.ClassForm", spec := "classForm", inPlace := ["internal/bytealg.IndexByteString", "internal/bytealg.IndexString", "internal/bytealg.abigen_runtime_cmpstring"], unfollowed := true, recurses := true, named := ["unicode/utf8.first", "unicode/utf8.acceptRanges", "internal/bytealg.MaxLen"], plainKeys := false, apart := false, laid := [("unicode/utf8.acceptRanges", laid_unicode_utf8_acceptRanges), ("unicode/utf8.first", laid_unicode_utf8_first)], narrowed := true }
def ClassFormUptoSaid : Prop := classFormUptoRow.holds Tryz.pinned (OpenSpec.upto classFormSpec)

/-- 'insolvencylaw29.ClassMany', WHERE WHAT IT READS IS OF BULK AT MOST 1048576: true; the input reads as it did. -/
def classManyUptoRow : OpenClaim := { program := "ytogeijhepjcbgaagreatdoor", sum := "40925d402bf535e762b2382e66faf325bf97fcda695531e9ce13f396cd67ba7b", func := "insolvency/insolvencylaw29.ClassMany", spec := "classMany", inPlace := ["internal/bytealg.IndexByteString", "internal/bytealg.IndexString", "internal/bytealg.abigen_runtime_cmpstring"], unfollowed := true, recurses := true, named := ["unicode/utf8.first", "unicode/utf8.acceptRanges", "internal/bytealg.MaxLen"], plainKeys := false, apart := false, laid := [("unicode/utf8.acceptRanges", laid_unicode_utf8_acceptRanges), ("unicode/utf8.first", laid_unicode_utf8_first)], narrowed := true }
def ClassManyUptoSaid : Prop := classManyUptoRow.holds Tryz.pinned (OpenSpec.upto classManySpec)

/-- 'insolvencylaw29.ClassCheck', WHERE WHAT IT READS IS OF BULK AT MOST 1048576: true; the input reads as it did. -/
def classCheckUptoRow : OpenClaim := { program := "ytogeijhepjcbgaagreatdoor", sum := "40925d402bf535e762b2382e66faf325bf97fcda695531e9ce13f396cd67ba7b", func := "insolvency/insolvencylaw29.ClassCheck", spec := "classCheck", inPlace := ["internal/bytealg.IndexByteString", "internal/bytealg.IndexString", "internal/bytealg.abigen_runtime_cmpstring"], unfollowed := true, recurses := true, named := ["unicode/utf8.first", "unicode/utf8.acceptRanges", "internal/bytealg.MaxLen"], plainKeys := false, apart := false, laid := [("unicode/utf8.acceptRanges", laid_unicode_utf8_acceptRanges), ("unicode/utf8.first", laid_unicode_utf8_first)], narrowed := true }
def ClassCheckUptoSaid : Prop := classCheckUptoRow.holds Tryz.pinned (OpenSpec.upto classCheckSpec)

/-- 'insolvencylaw18.GuaranteeBroken', WHERE WHAT IT READS IS OF BULK AT MOST 1048576: true; the input reads as it did. -/
def guaranteeBrokenUptoRow : OpenClaim := { program := "ytogeijhepjcbgaagreatdoor", sum := "40925d402bf535e762b2382e66faf325bf97fcda695531e9ce13f396cd67ba7b", func := "insolvency/insolvencylaw18.GuaranteeBroken", spec := "guaranteeBroken", inPlace := ["internal/bytealg.IndexByteString", "internal/bytealg.IndexString", "internal/bytealg.abigen_runtime_cmpstring"], unfollowed := true, recurses := true, named := ["unicode/utf8.first", "unicode/utf8.acceptRanges", "internal/bytealg.MaxLen"], plainKeys := false, apart := false, laid := [("unicode/utf8.acceptRanges", laid_unicode_utf8_acceptRanges), ("unicode/utf8.first", laid_unicode_utf8_first)], narrowed := true }
def GuaranteeBrokenUptoSaid : Prop := guaranteeBrokenUptoRow.holds Tryz.pinned (OpenSpec.upto guaranteeBrokenSpec)

/-- 'insolvencylaw18.GuaranteeCheck', WHERE WHAT IT READS IS OF BULK AT MOST 1048576: true; the input reads as it did. -/
def guaranteeCheckUptoRow : OpenClaim := { program := "ytogeijhepjcbgaagreatdoor", sum := "40925d402bf535e762b2382e66faf325bf97fcda695531e9ce13f396cd67ba7b", func := "insolvency/insolvencylaw18.GuaranteeCheck", spec := "guaranteeCheck", inPlace := ["internal/bytealg.IndexByteString", "internal/bytealg.IndexString", "internal/bytealg.abigen_runtime_cmpstring"], unfollowed := true, recurses := true, named := ["unicode/utf8.first", "unicode/utf8.acceptRanges", "internal/bytealg.MaxLen"], plainKeys := false, apart := false, laid := [("unicode/utf8.acceptRanges", laid_unicode_utf8_acceptRanges), ("unicode/utf8.first", laid_unicode_utf8_first)], narrowed := true }
def GuaranteeCheckUptoSaid : Prop := guaranteeCheckUptoRow.holds Tryz.pinned (OpenSpec.upto guaranteeCheckSpec)

/-- 'insolvencylaw18.GuaranteeBuilt', WHERE WHAT IT READS IS OF BULK AT MOST 1048576: true; the input reads as it did. -/
def guaranteeBuiltUptoRow : OpenClaim := { program := "ytogeijhepjcbgaagreatdoor", sum := "40925d402bf535e762b2382e66faf325bf97fcda695531e9ce13f396cd67ba7b", func := "insolvency/insolvencylaw18.GuaranteeBuilt", spec := "guaranteeBuilt", inPlace := ["internal/bytealg.IndexByteString", "internal/bytealg.IndexString", "internal/bytealg.abigen_runtime_cmpstring"], unfollowed := true, recurses := true, named := ["unicode/utf8.first", "unicode/utf8.acceptRanges", "internal/bytealg.MaxLen"], plainKeys := false, apart := false, laid := [("unicode/utf8.acceptRanges", laid_unicode_utf8_acceptRanges), ("unicode/utf8.first", laid_unicode_utf8_first)], narrowed := true }
def GuaranteeBuiltUptoSaid : Prop := guaranteeBuiltUptoRow.holds Tryz.pinned (OpenSpec.upto guaranteeBuiltSpec)

/-- 'insolvencylaw29.ClassSum', WHERE WHAT IT READS IS OF BULK AT MOST 1048576: true; the input reads as it did. -/
def classSumUptoRow : OpenClaim := { program := "ytogeijhepjcbgaagreatdoor", sum := "40925d402bf535e762b2382e66faf325bf97fcda695531e9ce13f396cd67ba7b", func := "insolvency/insolvencylaw29.ClassSum", spec := "classSum", inPlace := ["internal/bytealg.IndexByteString", "internal/bytealg.IndexString", "internal/bytealg.abigen_runtime_cmpstring"], unfollowed := true, recurses := true, named := ["unicode/utf8.first", "unicode/utf8.acceptRanges", "internal/bytealg.MaxLen"], plainKeys := false, apart := false, laid := [("unicode/utf8.acceptRanges", laid_unicode_utf8_acceptRanges), ("unicode/utf8.first", laid_unicode_utf8_first)], narrowed := true }
def ClassSumUptoSaid : Prop := classSumUptoRow.holds Tryz.pinned (OpenSpec.upto classSumSpec)

/-- 'insolvencylaw29.ClassSound', WHERE WHAT IT READS IS OF BULK AT MOST 1048576: true; the input reads as it did. -/
def classSoundUptoRow : OpenClaim := { program := "ytogeijhepjcbgaagreatdoor", sum := "40925d402bf535e762b2382e66faf325bf97fcda695531e9ce13f396cd67ba7b", func := "insolvency/insolvencylaw29.ClassSound", spec := "classSound", inPlace := ["internal/bytealg.IndexByteString", "internal/bytealg.IndexString", "internal/bytealg.abigen_runtime_cmpstring"], unfollowed := true, recurses := true, named := ["unicode/utf8.first", "unicode/utf8.acceptRanges", "internal/bytealg.MaxLen"], plainKeys := false, apart := false, laid := [("unicode/utf8.acceptRanges", laid_unicode_utf8_acceptRanges), ("unicode/utf8.first", laid_unicode_utf8_first)], narrowed := true }
def ClassSoundUptoSaid : Prop := classSoundUptoRow.holds Tryz.pinned (OpenSpec.upto classSoundSpec)

end Rows
end Go.Proofs.YtogeijhepjcbgaaGreatDoor
