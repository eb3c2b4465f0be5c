/-
  NARROWER THAN 'FOR EVERY INPUT', by the rows' own cells (each row's printed sentence says how): GuaranteeBroken: laid · DisputeApply: laid · DisputeDecide: laid · WaterfallMany: laid · WaterfallGrows: laid · WaterfallLinear: laid · WaterfallKink: laid · WaterfallRaw: laid · WaterfallBuilt: laid.
  DERIVED. THE GIVEN ROWS OF THIS SEAT. 9 by the template 'for every input the law returns true; each argument reads behind the call as it read before'; 0 by the template 'total and deterministic' (their statements: YtokmkopihhnggaaGreatDoorTotals.lean).
  GIVEN WITH THE SEED: the statements are not yours to turn. If you find one false, say at which input.
  Laid BY PROGRAM, IN A SANDBOX (cutbox-rows.mjs): the forced cells as the released guide's own fill.sh prints them over the translation cd2226d083b2ab47… (all of the seat's roots in one cut). By AI agents, Wed Nov 11 2026. No macro, syntax, notation, axiom, sorry.
-/
import Derived.Test.YtokmkopihhnggaaGreatDoorChecked
import GoSem.PinnedTables
import GoSem.Claim
import GoSem.ClaimJoined
import GoSem.ClaimMapViews
import Derived.JoinedTies
import Derived.KernelRfl
namespace Go.Proofs.YtokmkopihhnggaaGreatDoor
/- THE CELL 'sum', in the pinned program and in every row, IS THE sha256 OF THE DUMP (.gsa) THAT YtokmkopihhnggaaGreatDoorProg.lean LOADS. Nothing in Lean hashes anything: it is a label: what it is worth is what the hold of that sum in a sandbox is worth. -/
noncomputable def Tryz.pinned : Pinned := { name := "ytokmkopihhnggaagreatdoor", sum := "cd2226d083b2ab474bc2ff498a2d57a3bbb587991a304d5cdefa16811bdd246e", checked := Tryz.checked }
namespace Rows
def none {H : Type} : Left H := { results := [], args := [] }

/- WHAT THE LISTED PACKAGE-LEVEL VARIABLES READ AS WHEN THE CALL BEGINS. Each datum BY PROGRAM (the guide's laid-datum.mjs) off the statement by which the dump's own 'gosem.cut.vars' lays the variable. In a bare row this is a premise. The card (YtokmkopihhnggaaGreatDoorCards.lean) ties it to the program's text. -/
def laid_unicode_utf8_acceptRanges {H : Type} : DataW H := .agg [.agg [.lit (.int .u8 128), .lit (.int .u8 191)], .agg [.lit (.int .u8 160), .lit (.int .u8 191)], .agg [.lit (.int .u8 128), .lit (.int .u8 159)], .agg [.lit (.int .u8 144), .lit (.int .u8 191)], .agg [.lit (.int .u8 128), .lit (.int .u8 143)], .agg [.lit (.int .u8 0), .lit (.int .u8 0)], .agg [.lit (.int .u8 0), .lit (.int .u8 0)], .agg [.lit (.int .u8 0), .lit (.int .u8 0)], .agg [.lit (.int .u8 0), .lit (.int .u8 0)], .agg [.lit (.int .u8 0), .lit (.int .u8 0)], .agg [.lit (.int .u8 0), .lit (.int .u8 0)], .agg [.lit (.int .u8 0), .lit (.int .u8 0)], .agg [.lit (.int .u8 0), .lit (.int .u8 0)], .agg [.lit (.int .u8 0), .lit (.int .u8 0)], .agg [.lit (.int .u8 0), .lit (.int .u8 0)], .agg [.lit (.int .u8 0), .lit (.int .u8 0)]]
/-- One of Go's own tables, pinned by name: the form's constant. -/
def laid_unicode_utf8_first : DataW Unit := Go.Pinned.utf8First

/-- 'insolvencylaw18.GuaranteeBroken': WHATEVER THE INPUT: true; the input reads as it did. -/
def guaranteeBrokenSpec : ChangeSpec := { name := "guaranteeBroken", fn := fun _ => fun
  | [d1, d2, d3, d4, d5, d6, d7] => { results := [.lit (.bool true)], args := [d1, d2, d3, d4, d5, d6, d7] }
  | _ => none }
def guaranteeBrokenRow : OpenClaim := { program := "ytokmkopihhnggaagreatdoor", sum := "cd2226d083b2ab474bc2ff498a2d57a3bbb587991a304d5cdefa16811bdd246e", func := "insolvency/insolvencylaw18.GuaranteeBroken", spec := "guaranteeBroken", inPlace := ["internal/bytealg.IndexByteString", "internal/bytealg.IndexString", "internal/bytealg.abigen_runtime_cmpstring"], unfollowed := true, recurses := true, named := ["unicode/utf8.first", "unicode/utf8.acceptRanges", "internal/bytealg.MaxLen"], plainKeys := false, apart := false, laid := [("unicode/utf8.acceptRanges", laid_unicode_utf8_acceptRanges), ("unicode/utf8.first", laid_unicode_utf8_first)] }
def GuaranteeBrokenSaid : Prop := guaranteeBrokenRow.holds Tryz.pinned (OpenSpec.ofChange guaranteeBrokenSpec)

/-- ITS FALSE NEIGHBOUR: 'it returns false'. Refute it at one input. -/
def guaranteeBrokenWrong : ChangeSpec := { name := "guaranteeBroken", fn := fun _ => fun
  | [d1, d2, d3, d4, d5, d6, d7] => { results := [.lit (.bool false)], args := [d1, d2, d3, d4, d5, d6, d7] }
  | _ => none }
def GuaranteeBrokenWrongFalsely : Prop := guaranteeBrokenRow.holds Tryz.pinned (OpenSpec.ofChange guaranteeBrokenWrong)

/-- 'insolvencylaw22.DisputeApply': WHATEVER THE INPUT: true; the input reads as it did. -/
def disputeApplySpec : ChangeSpec := { name := "disputeApply", fn := fun _ => fun
  | [d1, d2, d3, d4, d5, d6, d7, d8, d9] => { results := [.lit (.bool true)], args := [d1, d2, d3, d4, d5, d6, d7, d8, d9] }
  | _ => none }
def disputeApplyRow : OpenClaim := { program := "ytokmkopihhnggaagreatdoor", sum := "cd2226d083b2ab474bc2ff498a2d57a3bbb587991a304d5cdefa16811bdd246e", func := "insolvency/insolvencylaw22.DisputeApply", spec := "disputeApply", inPlace := ["internal/bytealg.IndexByteString", "internal/bytealg.IndexString"], unfollowed := true, recurses := true, named := ["unicode/utf8.first", "unicode/utf8.acceptRanges", "internal/bytealg.MaxLen"], plainKeys := false, apart := false, laid := [("unicode/utf8.acceptRanges", laid_unicode_utf8_acceptRanges), ("unicode/utf8.first", laid_unicode_utf8_first)] }
def DisputeApplySaid : Prop := disputeApplyRow.holds Tryz.pinned (OpenSpec.ofChange disputeApplySpec)

/-- ITS FALSE NEIGHBOUR: 'it returns false'. Refute it at one input. -/
def disputeApplyWrong : ChangeSpec := { name := "disputeApply", fn := fun _ => fun
  | [d1, d2, d3, d4, d5, d6, d7, d8, d9] => { results := [.lit (.bool false)], args := [d1, d2, d3, d4, d5, d6, d7, d8, d9] }
  | _ => none }
def DisputeApplyWrongFalsely : Prop := disputeApplyRow.holds Tryz.pinned (OpenSpec.ofChange disputeApplyWrong)

/-- 'insolvencylaw22.DisputeDecide': WHATEVER THE INPUT: true; the input reads as it did. -/
def disputeDecideSpec : ChangeSpec := { name := "disputeDecide", fn := fun _ => fun
  | [d1, d2, d3, d4, d5, d6, d7, d8] => { results := [.lit (.bool true)], args := [d1, d2, d3, d4, d5, d6, d7, d8] }
  | _ => none }
def disputeDecideRow : OpenClaim := { program := "ytokmkopihhnggaagreatdoor", sum := "cd2226d083b2ab474bc2ff498a2d57a3bbb587991a304d5cdefa16811bdd246e", func := "insolvency/insolvencylaw22.DisputeDecide", spec := "disputeDecide", inPlace := ["internal/bytealg.IndexByteString", "internal/bytealg.IndexString"], unfollowed := true, recurses := true, named := ["unicode/utf8.first", "unicode/utf8.acceptRanges", "internal/bytealg.MaxLen"], plainKeys := false, apart := false, laid := [("unicode/utf8.acceptRanges", laid_unicode_utf8_acceptRanges), ("unicode/utf8.first", laid_unicode_utf8_first)] }
def DisputeDecideSaid : Prop := disputeDecideRow.holds Tryz.pinned (OpenSpec.ofChange disputeDecideSpec)

/-- ITS FALSE NEIGHBOUR: 'it returns false'. Refute it at one input. -/
def disputeDecideWrong : ChangeSpec := { name := "disputeDecide", fn := fun _ => fun
  | [d1, d2, d3, d4, d5, d6, d7, d8] => { results := [.lit (.bool false)], args := [d1, d2, d3, d4, d5, d6, d7, d8] }
  | _ => none }
def DisputeDecideWrongFalsely : Prop := disputeDecideRow.holds Tryz.pinned (OpenSpec.ofChange disputeDecideWrong)

/-- 'insolvencylaw17.WaterfallMany': WHATEVER THE INPUT: true; the input reads as it did. -/
def waterfallManySpec : ChangeSpec := { name := "waterfallMany", fn := fun _ => fun
  | [d1, d2, d3, d4] => { results := [.lit (.bool true)], args := [d1, d2, d3, d4] }
  | _ => none }
def waterfallManyRow : OpenClaim := { program := "ytokmkopihhnggaagreatdoor", sum := "cd2226d083b2ab474bc2ff498a2d57a3bbb587991a304d5cdefa16811bdd246e", func := "insolvency/insolvencylaw17.WaterfallMany", spec := "waterfallMany", inPlace := ["internal/bytealg.IndexByteString", "internal/bytealg.IndexString", "internal/bytealg.abigen_runtime_cmpstring"], unfollowed := true, recurses := true, named := ["unicode/utf8.first", "unicode/utf8.acceptRanges", "internal/bytealg.MaxLen"], plainKeys := false, apart := false, laid := [("unicode/utf8.acceptRanges", laid_unicode_utf8_acceptRanges), ("unicode/utf8.first", laid_unicode_utf8_first)] }
def WaterfallManySaid : Prop := waterfallManyRow.holds Tryz.pinned (OpenSpec.ofChange waterfallManySpec)

/-- ITS FALSE NEIGHBOUR: 'it returns false'. Refute it at one input. -/
def waterfallManyWrong : ChangeSpec := { name := "waterfallMany", fn := fun _ => fun
  | [d1, d2, d3, d4] => { results := [.lit (.bool false)], args := [d1, d2, d3, d4] }
  | _ => none }
def WaterfallManyWrongFalsely : Prop := waterfallManyRow.holds Tryz.pinned (OpenSpec.ofChange waterfallManyWrong)

/-- 'insolvencylaw17.WaterfallGrows': WHATEVER THE INPUT: true; the input reads as it did. -/
def waterfallGrowsSpec : ChangeSpec := { name := "waterfallGrows", fn := fun _ => fun
  | [d1, d2, d3, d4] => { results := [.lit (.bool true)], args := [d1, d2, d3, d4] }
  | _ => none }
def waterfallGrowsRow : OpenClaim := { program := "ytokmkopihhnggaagreatdoor", sum := "cd2226d083b2ab474bc2ff498a2d57a3bbb587991a304d5cdefa16811bdd246e", func := "insolvency/insolvencylaw17.WaterfallGrows", spec := "waterfallGrows", inPlace := ["internal/bytealg.IndexByteString", "internal/bytealg.IndexString", "internal/bytealg.abigen_runtime_cmpstring"], unfollowed := true, recurses := true, named := ["unicode/utf8.first", "unicode/utf8.acceptRanges", "internal/bytealg.MaxLen"], plainKeys := false, apart := false, laid := [("unicode/utf8.acceptRanges", laid_unicode_utf8_acceptRanges), ("unicode/utf8.first", laid_unicode_utf8_first)] }
def WaterfallGrowsSaid : Prop := waterfallGrowsRow.holds Tryz.pinned (OpenSpec.ofChange waterfallGrowsSpec)

/-- ITS FALSE NEIGHBOUR: 'it returns false'. Refute it at one input. -/
def waterfallGrowsWrong : ChangeSpec := { name := "waterfallGrows", fn := fun _ => fun
  | [d1, d2, d3, d4] => { results := [.lit (.bool false)], args := [d1, d2, d3, d4] }
  | _ => none }
def WaterfallGrowsWrongFalsely : Prop := waterfallGrowsRow.holds Tryz.pinned (OpenSpec.ofChange waterfallGrowsWrong)

/-- 'insolvencylaw17.WaterfallLinear': WHATEVER THE INPUT: true; the input reads as it did. -/
def waterfallLinearSpec : ChangeSpec := { name := "waterfallLinear", fn := fun _ => fun
  | [d1, d2, d3, d4] => { results := [.lit (.bool true)], args := [d1, d2, d3, d4] }
  | _ => none }
def waterfallLinearRow : OpenClaim := { program := "ytokmkopihhnggaagreatdoor", sum := "cd2226d083b2ab474bc2ff498a2d57a3bbb587991a304d5cdefa16811bdd246e", func := "insolvency/insolvencylaw17.WaterfallLinear", spec := "waterfallLinear", inPlace := ["internal/bytealg.IndexByteString", "internal/bytealg.IndexString", "internal/bytealg.abigen_runtime_cmpstring"], unfollowed := true, recurses := true, named := ["unicode/utf8.first", "unicode/utf8.acceptRanges", "internal/bytealg.MaxLen"], plainKeys := false, apart := false, laid := [("unicode/utf8.acceptRanges", laid_unicode_utf8_acceptRanges), ("unicode/utf8.first", laid_unicode_utf8_first)] }
def WaterfallLinearSaid : Prop := waterfallLinearRow.holds Tryz.pinned (OpenSpec.ofChange waterfallLinearSpec)

/-- ITS FALSE NEIGHBOUR: 'it returns false'. Refute it at one input. -/
def waterfallLinearWrong : ChangeSpec := { name := "waterfallLinear", fn := fun _ => fun
  | [d1, d2, d3, d4] => { results := [.lit (.bool false)], args := [d1, d2, d3, d4] }
  | _ => none }
def WaterfallLinearWrongFalsely : Prop := waterfallLinearRow.holds Tryz.pinned (OpenSpec.ofChange waterfallLinearWrong)

/-- 'insolvencylaw17.WaterfallKink': WHATEVER THE INPUT: true; the input reads as it did. -/
def waterfallKinkSpec : ChangeSpec := { name := "waterfallKink", fn := fun _ => fun
  | [d1, d2, d3] => { results := [.lit (.bool true)], args := [d1, d2, d3] }
  | _ => none }
def waterfallKinkRow : OpenClaim := { program := "ytokmkopihhnggaagreatdoor", sum := "cd2226d083b2ab474bc2ff498a2d57a3bbb587991a304d5cdefa16811bdd246e", func := "insolvency/insolvencylaw17.WaterfallKink", spec := "waterfallKink", inPlace := ["internal/bytealg.IndexByteString", "internal/bytealg.IndexString", "internal/bytealg.abigen_runtime_cmpstring"], unfollowed := true, recurses := true, named := ["unicode/utf8.first", "unicode/utf8.acceptRanges", "internal/bytealg.MaxLen"], plainKeys := false, apart := false, laid := [("unicode/utf8.acceptRanges", laid_unicode_utf8_acceptRanges), ("unicode/utf8.first", laid_unicode_utf8_first)] }
def WaterfallKinkSaid : Prop := waterfallKinkRow.holds Tryz.pinned (OpenSpec.ofChange waterfallKinkSpec)

/-- ITS FALSE NEIGHBOUR: 'it returns false'. Refute it at one input. -/
def waterfallKinkWrong : ChangeSpec := { name := "waterfallKink", fn := fun _ => fun
  | [d1, d2, d3] => { results := [.lit (.bool false)], args := [d1, d2, d3] }
  | _ => none }
def WaterfallKinkWrongFalsely : Prop := waterfallKinkRow.holds Tryz.pinned (OpenSpec.ofChange waterfallKinkWrong)

/-- 'insolvencylaw17.WaterfallRaw': WHATEVER THE INPUT: true; the input reads as it did. -/
def waterfallRawSpec : ChangeSpec := { name := "waterfallRaw", fn := fun _ => fun
  | [d1, d2] => { results := [.lit (.bool true)], args := [d1, d2] }
  | _ => none }
def waterfallRawRow : OpenClaim := { program := "ytokmkopihhnggaagreatdoor", sum := "cd2226d083b2ab474bc2ff498a2d57a3bbb587991a304d5cdefa16811bdd246e", func := "insolvency/insolvencylaw17.WaterfallRaw", spec := "waterfallRaw", inPlace := ["internal/bytealg.IndexByteString", "internal/bytealg.IndexString", "internal/bytealg.abigen_runtime_cmpstring"], unfollowed := true, recurses := true, named := ["unicode/utf8.first", "unicode/utf8.acceptRanges", "internal/bytealg.MaxLen"], plainKeys := false, apart := false, laid := [("unicode/utf8.acceptRanges", laid_unicode_utf8_acceptRanges), ("unicode/utf8.first", laid_unicode_utf8_first)] }
def WaterfallRawSaid : Prop := waterfallRawRow.holds Tryz.pinned (OpenSpec.ofChange waterfallRawSpec)

/-- ITS FALSE NEIGHBOUR: 'it returns false'. Refute it at one input. -/
def waterfallRawWrong : ChangeSpec := { name := "waterfallRaw", fn := fun _ => fun
  | [d1, d2] => { results := [.lit (.bool false)], args := [d1, d2] }
  | _ => none }
def WaterfallRawWrongFalsely : Prop := waterfallRawRow.holds Tryz.pinned (OpenSpec.ofChange waterfallRawWrong)

/-- 'insolvencylaw17.WaterfallBuilt': WHATEVER THE INPUT: true; the input reads as it did. -/
def waterfallBuiltSpec : ChangeSpec := { name := "waterfallBuilt", fn := fun _ => fun
  | [d1, d2, d3] => { results := [.lit (.bool true)], args := [d1, d2, d3] }
  | _ => none }
def waterfallBuiltRow : OpenClaim := { program := "ytokmkopihhnggaagreatdoor", sum := "cd2226d083b2ab474bc2ff498a2d57a3bbb587991a304d5cdefa16811bdd246e", func := "insolvency/insolvencylaw17.WaterfallBuilt", spec := "waterfallBuilt", inPlace := ["internal/bytealg.IndexByteString", "internal/bytealg.IndexString", "internal/bytealg.abigen_runtime_cmpstring"], unfollowed := true, recurses := true, named := ["unicode/utf8.first", "unicode/utf8.acceptRanges", "internal/bytealg.MaxLen"], plainKeys := false, apart := false, laid := [("unicode/utf8.acceptRanges", laid_unicode_utf8_acceptRanges), ("unicode/utf8.first", laid_unicode_utf8_first)] }
def WaterfallBuiltSaid : Prop := waterfallBuiltRow.holds Tryz.pinned (OpenSpec.ofChange waterfallBuiltSpec)

/-- ITS FALSE NEIGHBOUR: 'it returns false'. Refute it at one input. -/
def waterfallBuiltWrong : ChangeSpec := { name := "waterfallBuilt", fn := fun _ => fun
  | [d1, d2, d3] => { results := [.lit (.bool false)], args := [d1, d2, d3] }
  | _ => none }
def WaterfallBuiltWrongFalsely : Prop := waterfallBuiltRow.holds Tryz.pinned (OpenSpec.ofChange waterfallBuiltWrong)

/- THE SECOND FORM. 'bulk': how many values and letters a reading holds, each counted each time it is reached (what is shared counts as often as it is met; a slice's spare places count too). A statement '..UptoSaid' is the law's where the arguments, and the package variables that the reading takes, are together of bulk at most 1048576: NARROWER than '..Said'. Prove '..Said' where nothing that the law and all that it calls make is longer than what came in: it says more and counts as full. Else prove '..UptoSaid'. A law counts once. -/
mutual
def uptoBulk {H : Type} : DataW H → Nat
  | .lit (.string bytes) => bytes.length + 1
  | .lit _ => 1
  | .nil => 1
  | .ptr d => uptoBulk d + 1
  | .slice elems spare => uptoBulkAll elems + uptoBulkAll spare + 1
  | .agg parts => uptoBulkAll parts + 1
  | .iface _ d => uptoBulk d + 1
  | .map entries => uptoBulkEntries entries + 1
  | .held _ => 1
def uptoBulkAll {H : Type} : List (DataW H) → Nat
  | [] => 0
  | d :: r => uptoBulk d + uptoBulkAll r
def uptoBulkEntries {H : Type} : List (Lit × DataW H) → Nat
  | [] => 0
  | x :: r => uptoBulkEntry x + uptoBulkEntries r
def uptoBulkEntry {H : Type} : Lit × DataW H → Nat
  | (.string bytes, d) => bytes.length + uptoBulk d + 1
  | (_, d) => uptoBulk d + 1
 end
def uptoSmall : (H : Type) → List (DataW H) → Bool := fun _ ds => decide (uptoBulkAll ds ≤ 1048576)
def OpenSpec.upto (s : _root_.Go.ChangeSpec) : _root_.Go.OpenSpec := { _root_.Go.OpenSpec.ofChange s with cond := some uptoSmall }

/-- 'insolvencylaw18.GuaranteeBroken', WHERE WHAT IT READS IS OF BULK AT MOST 1048576: true; the input reads as it did. -/
def guaranteeBrokenUptoRow : OpenClaim := { program := "ytokmkopihhnggaagreatdoor", sum := "cd2226d083b2ab474bc2ff498a2d57a3bbb587991a304d5cdefa16811bdd246e", func := "insolvency/insolvencylaw18.GuaranteeBroken", spec := "guaranteeBroken", inPlace := ["internal/bytealg.IndexByteString", "internal/bytealg.IndexString", "internal/bytealg.abigen_runtime_cmpstring"], unfollowed := true, recurses := true, named := ["unicode/utf8.first", "unicode/utf8.acceptRanges", "internal/bytealg.MaxLen"], plainKeys := false, apart := false, laid := [("unicode/utf8.acceptRanges", laid_unicode_utf8_acceptRanges), ("unicode/utf8.first", laid_unicode_utf8_first)], narrowed := true }
def GuaranteeBrokenUptoSaid : Prop := guaranteeBrokenUptoRow.holds Tryz.pinned (OpenSpec.upto guaranteeBrokenSpec)

/-- 'insolvencylaw22.DisputeApply', WHERE WHAT IT READS IS OF BULK AT MOST 1048576: true; the input reads as it did. -/
def disputeApplyUptoRow : OpenClaim := { program := "ytokmkopihhnggaagreatdoor", sum := "cd2226d083b2ab474bc2ff498a2d57a3bbb587991a304d5cdefa16811bdd246e", func := "insolvency/insolvencylaw22.DisputeApply", spec := "disputeApply", inPlace := ["internal/bytealg.IndexByteString", "internal/bytealg.IndexString"], unfollowed := true, recurses := true, named := ["unicode/utf8.first", "unicode/utf8.acceptRanges", "internal/bytealg.MaxLen"], plainKeys := false, apart := false, laid := [("unicode/utf8.acceptRanges", laid_unicode_utf8_acceptRanges), ("unicode/utf8.first", laid_unicode_utf8_first)], narrowed := true }
def DisputeApplyUptoSaid : Prop := disputeApplyUptoRow.holds Tryz.pinned (OpenSpec.upto disputeApplySpec)

/-- 'insolvencylaw22.DisputeDecide', WHERE WHAT IT READS IS OF BULK AT MOST 1048576: true; the input reads as it did. -/
def disputeDecideUptoRow : OpenClaim := { program := "ytokmkopihhnggaagreatdoor", sum := "cd2226d083b2ab474bc2ff498a2d57a3bbb587991a304d5cdefa16811bdd246e", func := "insolvency/insolvencylaw22.DisputeDecide", spec := "disputeDecide", inPlace := ["internal/bytealg.IndexByteString", "internal/bytealg.IndexString"], unfollowed := true, recurses := true, named := ["unicode/utf8.first", "unicode/utf8.acceptRanges", "internal/bytealg.MaxLen"], plainKeys := false, apart := false, laid := [("unicode/utf8.acceptRanges", laid_unicode_utf8_acceptRanges), ("unicode/utf8.first", laid_unicode_utf8_first)], narrowed := true }
def DisputeDecideUptoSaid : Prop := disputeDecideUptoRow.holds Tryz.pinned (OpenSpec.upto disputeDecideSpec)

/-- 'insolvencylaw17.WaterfallMany', WHERE WHAT IT READS IS OF BULK AT MOST 1048576: true; the input reads as it did. -/
def waterfallManyUptoRow : OpenClaim := { program := "ytokmkopihhnggaagreatdoor", sum := "cd2226d083b2ab474bc2ff498a2d57a3bbb587991a304d5cdefa16811bdd246e", func := "insolvency/insolvencylaw17.WaterfallMany", spec := "waterfallMany", inPlace := ["internal/bytealg.IndexByteString", "internal/bytealg.IndexString", "internal/bytealg.abigen_runtime_cmpstring"], unfollowed := true, recurses := true, named := ["unicode/utf8.first", "unicode/utf8.acceptRanges", "internal/bytealg.MaxLen"], plainKeys := false, apart := false, laid := [("unicode/utf8.acceptRanges", laid_unicode_utf8_acceptRanges), ("unicode/utf8.first", laid_unicode_utf8_first)], narrowed := true }
def WaterfallManyUptoSaid : Prop := waterfallManyUptoRow.holds Tryz.pinned (OpenSpec.upto waterfallManySpec)

/-- 'insolvencylaw17.WaterfallGrows', WHERE WHAT IT READS IS OF BULK AT MOST 1048576: true; the input reads as it did. -/
def waterfallGrowsUptoRow : OpenClaim := { program := "ytokmkopihhnggaagreatdoor", sum := "cd2226d083b2ab474bc2ff498a2d57a3bbb587991a304d5cdefa16811bdd246e", func := "insolvency/insolvencylaw17.WaterfallGrows", spec := "waterfallGrows", inPlace := ["internal/bytealg.IndexByteString", "internal/bytealg.IndexString", "internal/bytealg.abigen_runtime_cmpstring"], unfollowed := true, recurses := true, named := ["unicode/utf8.first", "unicode/utf8.acceptRanges", "internal/bytealg.MaxLen"], plainKeys := false, apart := false, laid := [("unicode/utf8.acceptRanges", laid_unicode_utf8_acceptRanges), ("unicode/utf8.first", laid_unicode_utf8_first)], narrowed := true }
def WaterfallGrowsUptoSaid : Prop := waterfallGrowsUptoRow.holds Tryz.pinned (OpenSpec.upto waterfallGrowsSpec)

/-- 'insolvencylaw17.WaterfallLinear', WHERE WHAT IT READS IS OF BULK AT MOST 1048576: true; the input reads as it did. -/
def waterfallLinearUptoRow : OpenClaim := { program := "ytokmkopihhnggaagreatdoor", sum := "cd2226d083b2ab474bc2ff498a2d57a3bbb587991a304d5cdefa16811bdd246e", func := "insolvency/insolvencylaw17.WaterfallLinear", spec := "waterfallLinear", inPlace := ["internal/bytealg.IndexByteString", "internal/bytealg.IndexString", "internal/bytealg.abigen_runtime_cmpstring"], unfollowed := true, recurses := true, named := ["unicode/utf8.first", "unicode/utf8.acceptRanges", "internal/bytealg.MaxLen"], plainKeys := false, apart := false, laid := [("unicode/utf8.acceptRanges", laid_unicode_utf8_acceptRanges), ("unicode/utf8.first", laid_unicode_utf8_first)], narrowed := true }
def WaterfallLinearUptoSaid : Prop := waterfallLinearUptoRow.holds Tryz.pinned (OpenSpec.upto waterfallLinearSpec)

/-- 'insolvencylaw17.WaterfallKink', WHERE WHAT IT READS IS OF BULK AT MOST 1048576: true; the input reads as it did. -/
def waterfallKinkUptoRow : OpenClaim := { program := "ytokmkopihhnggaagreatdoor", sum := "cd2226d083b2ab474bc2ff498a2d57a3bbb587991a304d5cdefa16811bdd246e", func := "insolvency/insolvencylaw17.WaterfallKink", spec := "waterfallKink", inPlace := ["internal/bytealg.IndexByteString", "internal/bytealg.IndexString", "internal/bytealg.abigen_runtime_cmpstring"], unfollowed := true, recurses := true, named := ["unicode/utf8.first", "unicode/utf8.acceptRanges", "internal/bytealg.MaxLen"], plainKeys := false, apart := false, laid := [("unicode/utf8.acceptRanges", laid_unicode_utf8_acceptRanges), ("unicode/utf8.first", laid_unicode_utf8_first)], narrowed := true }
def WaterfallKinkUptoSaid : Prop := waterfallKinkUptoRow.holds Tryz.pinned (OpenSpec.upto waterfallKinkSpec)

/-- 'insolvencylaw17.WaterfallRaw', WHERE WHAT IT READS IS OF BULK AT MOST 1048576: true; the input reads as it did. -/
def waterfallRawUptoRow : OpenClaim := { program := "ytokmkopihhnggaagreatdoor", sum := "cd2226d083b2ab474bc2ff498a2d57a3bbb587991a304d5cdefa16811bdd246e", func := "insolvency/insolvencylaw17.WaterfallRaw", spec := "waterfallRaw", inPlace := ["internal/bytealg.IndexByteString", "internal/bytealg.IndexString", "internal/bytealg.abigen_runtime_cmpstring"], unfollowed := true, recurses := true, named := ["unicode/utf8.first", "unicode/utf8.acceptRanges", "internal/bytealg.MaxLen"], plainKeys := false, apart := false, laid := [("unicode/utf8.acceptRanges", laid_unicode_utf8_acceptRanges), ("unicode/utf8.first", laid_unicode_utf8_first)], narrowed := true }
def WaterfallRawUptoSaid : Prop := waterfallRawUptoRow.holds Tryz.pinned (OpenSpec.upto waterfallRawSpec)

/-- 'insolvencylaw17.WaterfallBuilt', WHERE WHAT IT READS IS OF BULK AT MOST 1048576: true; the input reads as it did. -/
def waterfallBuiltUptoRow : OpenClaim := { program := "ytokmkopihhnggaagreatdoor", sum := "cd2226d083b2ab474bc2ff498a2d57a3bbb587991a304d5cdefa16811bdd246e", func := "insolvency/insolvencylaw17.WaterfallBuilt", spec := "waterfallBuilt", inPlace := ["internal/bytealg.IndexByteString", "internal/bytealg.IndexString", "internal/bytealg.abigen_runtime_cmpstring"], unfollowed := true, recurses := true, named := ["unicode/utf8.first", "unicode/utf8.acceptRanges", "internal/bytealg.MaxLen"], plainKeys := false, apart := false, laid := [("unicode/utf8.acceptRanges", laid_unicode_utf8_acceptRanges), ("unicode/utf8.first", laid_unicode_utf8_first)], narrowed := true }
def WaterfallBuiltUptoSaid : Prop := waterfallBuiltUptoRow.holds Tryz.pinned (OpenSpec.upto waterfallBuiltSpec)

end Rows
end Go.Proofs.YtokmkopihhnggaaGreatDoor
