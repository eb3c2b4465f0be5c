/-
  NARROWER THAN 'FOR EVERY INPUT', by the rows' own cells (each row's printed sentence says how): GuaranteeBroken: laid · ClawbackRevive: laid · ClawbackLong: laid · ClawbackReturns: laid · ClawbackMerge: laid · ClawbackMany: laid · ClawbackOrder: laid.
  DERIVED. THE GIVEN ROWS OF THIS SEAT. 7 by the template 'for every input the law returns true; each argument reads behind the call as it read before'; 0 by the template 'total and deterministic' (their statements: YtcgpghifhehlhaaGreatDoorTotals.lean).
  GIVEN WITH THE SEED: the statements are not yours to turn. If you find one false, say at which input.
  Laid BY PROGRAM, IN A SANDBOX (cutbox-rows.mjs): the forced cells as the released guide's own fill.sh prints them over the translation 8fa8ddaa4b576d8d… (all of the seat's roots in one cut). By AI agents, Wed Nov 11 2026. No macro, syntax, notation, axiom, sorry.
-/
import Derived.Test.YtcgpghifhehlhaaGreatDoorChecked
import GoSem.PinnedTables
import GoSem.Claim
import GoSem.ClaimJoined
import GoSem.ClaimMapViews
import Derived.JoinedTies
import Derived.KernelRfl
namespace Go.Proofs.YtcgpghifhehlhaaGreatDoor
/- THE CELL 'sum', in the pinned program and in every row, IS THE sha256 OF THE DUMP (.gsa) THAT YtcgpghifhehlhaaGreatDoorProg.lean LOADS. Nothing in Lean hashes anything: it is a label: what it is worth is what the hold of that sum in a sandbox is worth. -/
noncomputable def Tryz.pinned : Pinned := { name := "ytcgpghifhehlhaagreatdoor", sum := "8fa8ddaa4b576d8d6be495712b0d961617f2917393643c1a00b6975f64f8425a", checked := Tryz.checked }
namespace Rows
def none {H : Type} : Left H := { results := [], args := [] }

/- WHAT THE LISTED PACKAGE-LEVEL VARIABLES READ AS WHEN THE CALL BEGINS. Each datum BY PROGRAM (the guide's laid-datum.mjs) off the statement by which the dump's own 'gosem.cut.vars' lays the variable. In a bare row this is a premise. The card (YtcgpghifhehlhaaGreatDoorCards.lean) ties it to the program's text. -/
def laid_unicode_utf8_acceptRanges {H : Type} : DataW H := .agg [.agg [.lit (.int .u8 128), .lit (.int .u8 191)], .agg [.lit (.int .u8 160), .lit (.int .u8 191)], .agg [.lit (.int .u8 128), .lit (.int .u8 159)], .agg [.lit (.int .u8 144), .lit (.int .u8 191)], .agg [.lit (.int .u8 128), .lit (.int .u8 143)], .agg [.lit (.int .u8 0), .lit (.int .u8 0)], .agg [.lit (.int .u8 0), .lit (.int .u8 0)], .agg [.lit (.int .u8 0), .lit (.int .u8 0)], .agg [.lit (.int .u8 0), .lit (.int .u8 0)], .agg [.lit (.int .u8 0), .lit (.int .u8 0)], .agg [.lit (.int .u8 0), .lit (.int .u8 0)], .agg [.lit (.int .u8 0), .lit (.int .u8 0)], .agg [.lit (.int .u8 0), .lit (.int .u8 0)], .agg [.lit (.int .u8 0), .lit (.int .u8 0)], .agg [.lit (.int .u8 0), .lit (.int .u8 0)], .agg [.lit (.int .u8 0), .lit (.int .u8 0)]]
/-- One of Go's own tables, pinned by name: the form's constant. -/
def laid_unicode_utf8_first : DataW Unit := Go.Pinned.utf8First

/-- 'insolvencylaw18.GuaranteeBroken': WHATEVER THE INPUT: true; the input reads as it did. -/
def guaranteeBrokenSpec : ChangeSpec := { name := "guaranteeBroken", fn := fun _ => fun
  | [d1, d2, d3, d4, d5, d6, d7] => { results := [.lit (.bool true)], args := [d1, d2, d3, d4, d5, d6, d7] }
  | _ => none }
def guaranteeBrokenRow : OpenClaim := { program := "ytcgpghifhehlhaagreatdoor", sum := "8fa8ddaa4b576d8d6be495712b0d961617f2917393643c1a00b6975f64f8425a", func := "insolvency/insolvencylaw18.GuaranteeBroken", spec := "guaranteeBroken", inPlace := ["internal/bytealg.IndexByteString", "internal/bytealg.IndexString", "internal/bytealg.abigen_runtime_cmpstring"], unfollowed := true, recurses := true, named := ["unicode/utf8.first", "unicode/utf8.acceptRanges", "internal/bytealg.MaxLen"], plainKeys := false, apart := false, laid := [("unicode/utf8.acceptRanges", laid_unicode_utf8_acceptRanges), ("unicode/utf8.first", laid_unicode_utf8_first)] }
def GuaranteeBrokenSaid : Prop := guaranteeBrokenRow.holds Tryz.pinned (OpenSpec.ofChange guaranteeBrokenSpec)

/-- ITS FALSE NEIGHBOUR: 'it returns false'. Refute it at one input. -/
def guaranteeBrokenWrong : ChangeSpec := { name := "guaranteeBroken", fn := fun _ => fun
  | [d1, d2, d3, d4, d5, d6, d7] => { results := [.lit (.bool false)], args := [d1, d2, d3, d4, d5, d6, d7] }
  | _ => none }
def GuaranteeBrokenWrongFalsely : Prop := guaranteeBrokenRow.holds Tryz.pinned (OpenSpec.ofChange guaranteeBrokenWrong)

/-- 'insolvencylaw28.ClawbackRevive': WHATEVER THE INPUT: true; the input reads as it did. -/
def clawbackReviveSpec : ChangeSpec := { name := "clawbackRevive", fn := fun _ => fun
  | [d1, d2, d3, d4, d5, d6, d7, d8] => { results := [.lit (.bool true)], args := [d1, d2, d3, d4, d5, d6, d7, d8] }
  | _ => none }
def clawbackReviveRow : OpenClaim := { program := "ytcgpghifhehlhaagreatdoor", sum := "8fa8ddaa4b576d8d6be495712b0d961617f2917393643c1a00b6975f64f8425a", func := "insolvency/insolvencylaw28.ClawbackRevive", spec := "clawbackRevive", inPlace := ["internal/bytealg.IndexByteString", "internal/bytealg.IndexString", "internal/bytealg.abigen_runtime_cmpstring"], unfollowed := true, recurses := true, named := ["unicode/utf8.first", "unicode/utf8.acceptRanges", "internal/bytealg.MaxLen"], plainKeys := false, apart := false, laid := [("unicode/utf8.acceptRanges", laid_unicode_utf8_acceptRanges), ("unicode/utf8.first", laid_unicode_utf8_first)] }
def ClawbackReviveSaid : Prop := clawbackReviveRow.holds Tryz.pinned (OpenSpec.ofChange clawbackReviveSpec)

/-- ITS FALSE NEIGHBOUR: 'it returns false'. Refute it at one input. -/
def clawbackReviveWrong : ChangeSpec := { name := "clawbackRevive", fn := fun _ => fun
  | [d1, d2, d3, d4, d5, d6, d7, d8] => { results := [.lit (.bool false)], args := [d1, d2, d3, d4, d5, d6, d7, d8] }
  | _ => none }
def ClawbackReviveWrongFalsely : Prop := clawbackReviveRow.holds Tryz.pinned (OpenSpec.ofChange clawbackReviveWrong)

/-- 'insolvencylaw28.ClawbackLong': WHATEVER THE INPUT: true; the input reads as it did. -/
def clawbackLongSpec : ChangeSpec := { name := "clawbackLong", fn := fun _ => fun
  | [d1, d2, d3] => { results := [.lit (.bool true)], args := [d1, d2, d3] }
  | _ => none }
def clawbackLongRow : OpenClaim := { program := "ytcgpghifhehlhaagreatdoor", sum := "8fa8ddaa4b576d8d6be495712b0d961617f2917393643c1a00b6975f64f8425a", func := "insolvency/insolvencylaw28.ClawbackLong", spec := "clawbackLong", inPlace := ["internal/bytealg.IndexByteString", "internal/bytealg.IndexString", "internal/bytealg.abigen_runtime_cmpstring"], unfollowed := true, recurses := true, named := ["unicode/utf8.first", "unicode/utf8.acceptRanges", "internal/bytealg.MaxLen"], plainKeys := false, apart := false, laid := [("unicode/utf8.acceptRanges", laid_unicode_utf8_acceptRanges), ("unicode/utf8.first", laid_unicode_utf8_first)] }
def ClawbackLongSaid : Prop := clawbackLongRow.holds Tryz.pinned (OpenSpec.ofChange clawbackLongSpec)

/-- ITS FALSE NEIGHBOUR: 'it returns false'. Refute it at one input. -/
def clawbackLongWrong : ChangeSpec := { name := "clawbackLong", fn := fun _ => fun
  | [d1, d2, d3] => { results := [.lit (.bool false)], args := [d1, d2, d3] }
  | _ => none }
def ClawbackLongWrongFalsely : Prop := clawbackLongRow.holds Tryz.pinned (OpenSpec.ofChange clawbackLongWrong)

/-- 'insolvencylaw28.ClawbackReturns': WHATEVER THE INPUT: true; the input reads as it did. -/
def clawbackReturnsSpec : ChangeSpec := { name := "clawbackReturns", fn := fun _ => fun
  | [d1, d2, d3] => { results := [.lit (.bool true)], args := [d1, d2, d3] }
  | _ => none }
def clawbackReturnsRow : OpenClaim := { program := "ytcgpghifhehlhaagreatdoor", sum := "8fa8ddaa4b576d8d6be495712b0d961617f2917393643c1a00b6975f64f8425a", func := "insolvency/insolvencylaw28.ClawbackReturns", spec := "clawbackReturns", inPlace := ["internal/bytealg.IndexByteString", "internal/bytealg.IndexString", "internal/bytealg.abigen_runtime_cmpstring"], unfollowed := true, recurses := true, named := ["unicode/utf8.first", "unicode/utf8.acceptRanges", "internal/bytealg.MaxLen"], plainKeys := false, apart := false, laid := [("unicode/utf8.acceptRanges", laid_unicode_utf8_acceptRanges), ("unicode/utf8.first", laid_unicode_utf8_first)] }
def ClawbackReturnsSaid : Prop := clawbackReturnsRow.holds Tryz.pinned (OpenSpec.ofChange clawbackReturnsSpec)

/-- ITS FALSE NEIGHBOUR: 'it returns false'. Refute it at one input. -/
def clawbackReturnsWrong : ChangeSpec := { name := "clawbackReturns", fn := fun _ => fun
  | [d1, d2, d3] => { results := [.lit (.bool false)], args := [d1, d2, d3] }
  | _ => none }
def ClawbackReturnsWrongFalsely : Prop := clawbackReturnsRow.holds Tryz.pinned (OpenSpec.ofChange clawbackReturnsWrong)

/-- 'insolvencylaw28.ClawbackMerge': WHATEVER THE INPUT: true; the input reads as it did. -/
def clawbackMergeSpec : ChangeSpec := { name := "clawbackMerge", fn := fun _ => fun
  | [d1, d2, d3, d4] => { results := [.lit (.bool true)], args := [d1, d2, d3, d4] }
  | _ => none }
def clawbackMergeRow : OpenClaim := { program := "ytcgpghifhehlhaagreatdoor", sum := "8fa8ddaa4b576d8d6be495712b0d961617f2917393643c1a00b6975f64f8425a", func := "insolvency/insolvencylaw28.ClawbackMerge", spec := "clawbackMerge", inPlace := ["internal/bytealg.IndexByteString", "internal/bytealg.IndexString", "internal/bytealg.abigen_runtime_cmpstring"], unfollowed := true, recurses := true, named := ["unicode/utf8.first", "unicode/utf8.acceptRanges", "internal/bytealg.MaxLen"], plainKeys := false, apart := false, laid := [("unicode/utf8.acceptRanges", laid_unicode_utf8_acceptRanges), ("unicode/utf8.first", laid_unicode_utf8_first)] }
def ClawbackMergeSaid : Prop := clawbackMergeRow.holds Tryz.pinned (OpenSpec.ofChange clawbackMergeSpec)

/-- ITS FALSE NEIGHBOUR: 'it returns false'. Refute it at one input. -/
def clawbackMergeWrong : ChangeSpec := { name := "clawbackMerge", fn := fun _ => fun
  | [d1, d2, d3, d4] => { results := [.lit (.bool false)], args := [d1, d2, d3, d4] }
  | _ => none }
def ClawbackMergeWrongFalsely : Prop := clawbackMergeRow.holds Tryz.pinned (OpenSpec.ofChange clawbackMergeWrong)

/-- 'insolvencylaw28.ClawbackMany': WHATEVER THE INPUT: true; the input reads as it did. -/
def clawbackManySpec : ChangeSpec := { name := "clawbackMany", fn := fun _ => fun
  | [d1, d2, d3] => { results := [.lit (.bool true)], args := [d1, d2, d3] }
  | _ => none }
def clawbackManyRow : OpenClaim := { program := "ytcgpghifhehlhaagreatdoor", sum := "8fa8ddaa4b576d8d6be495712b0d961617f2917393643c1a00b6975f64f8425a", func := "insolvency/insolvencylaw28.ClawbackMany", spec := "clawbackMany", inPlace := ["internal/bytealg.IndexByteString", "internal/bytealg.IndexString", "internal/bytealg.abigen_runtime_cmpstring"], unfollowed := true, recurses := true, named := ["unicode/utf8.first", "unicode/utf8.acceptRanges", "internal/bytealg.MaxLen"], plainKeys := false, apart := false, laid := [("unicode/utf8.acceptRanges", laid_unicode_utf8_acceptRanges), ("unicode/utf8.first", laid_unicode_utf8_first)] }
def ClawbackManySaid : Prop := clawbackManyRow.holds Tryz.pinned (OpenSpec.ofChange clawbackManySpec)

/-- ITS FALSE NEIGHBOUR: 'it returns false'. Refute it at one input. -/
def clawbackManyWrong : ChangeSpec := { name := "clawbackMany", fn := fun _ => fun
  | [d1, d2, d3] => { results := [.lit (.bool false)], args := [d1, d2, d3] }
  | _ => none }
def ClawbackManyWrongFalsely : Prop := clawbackManyRow.holds Tryz.pinned (OpenSpec.ofChange clawbackManyWrong)

/-- 'insolvencylaw28.ClawbackOrder': WHATEVER THE INPUT: true; the input reads as it did. -/
def clawbackOrderSpec : ChangeSpec := { name := "clawbackOrder", fn := fun _ => fun
  | [d1, d2] => { results := [.lit (.bool true)], args := [d1, d2] }
  | _ => none }
def clawbackOrderRow : OpenClaim := { program := "ytcgpghifhehlhaagreatdoor", sum := "8fa8ddaa4b576d8d6be495712b0d961617f2917393643c1a00b6975f64f8425a", func := "insolvency/insolvencylaw28.ClawbackOrder", spec := "clawbackOrder", inPlace := ["internal/bytealg.IndexByteString", "internal/bytealg.IndexString", "internal/bytealg.abigen_runtime_cmpstring"], unfollowed := true, recurses := true, named := ["unicode/utf8.first", "unicode/utf8.acceptRanges", "internal/bytealg.MaxLen"], plainKeys := false, apart := false, laid := [("unicode/utf8.acceptRanges", laid_unicode_utf8_acceptRanges), ("unicode/utf8.first", laid_unicode_utf8_first)] }
def ClawbackOrderSaid : Prop := clawbackOrderRow.holds Tryz.pinned (OpenSpec.ofChange clawbackOrderSpec)

/-- ITS FALSE NEIGHBOUR: 'it returns false'. Refute it at one input. -/
def clawbackOrderWrong : ChangeSpec := { name := "clawbackOrder", fn := fun _ => fun
  | [d1, d2] => { results := [.lit (.bool false)], args := [d1, d2] }
  | _ => none }
def ClawbackOrderWrongFalsely : Prop := clawbackOrderRow.holds Tryz.pinned (OpenSpec.ofChange clawbackOrderWrong)

/- THE SECOND FORM. 'bulk': how many values and letters a reading holds, each counted each time it is reached (what is shared counts as often as it is met; a slice's spare places count too). A statement '..UptoSaid' is the law's where the arguments, and the package variables that the reading takes, are together of bulk at most 1048576: NARROWER than '..Said'. Prove '..Said' where nothing that the law and all that it calls make is longer than what came in: it says more and counts as full. Else prove '..UptoSaid'. A law counts once. -/
mutual
def uptoBulk {H : Type} : DataW H → Nat
  | .lit (.string bytes) => bytes.length + 1
  | .lit _ => 1
  | .nil => 1
  | .ptr d => uptoBulk d + 1
  | .slice elems spare => uptoBulkAll elems + uptoBulkAll spare + 1
  | .agg parts => uptoBulkAll parts + 1
  | .iface _ d => uptoBulk d + 1
  | .map entries => uptoBulkEntries entries + 1
  | .held _ => 1
def uptoBulkAll {H : Type} : List (DataW H) → Nat
  | [] => 0
  | d :: r => uptoBulk d + uptoBulkAll r
def uptoBulkEntries {H : Type} : List (Lit × DataW H) → Nat
  | [] => 0
  | x :: r => uptoBulkEntry x + uptoBulkEntries r
def uptoBulkEntry {H : Type} : Lit × DataW H → Nat
  | (.string bytes, d) => bytes.length + uptoBulk d + 1
  | (_, d) => uptoBulk d + 1
 end
def uptoSmall : (H : Type) → List (DataW H) → Bool := fun _ ds => decide (uptoBulkAll ds ≤ 1048576)
def OpenSpec.upto (s : _root_.Go.ChangeSpec) : _root_.Go.OpenSpec := { _root_.Go.OpenSpec.ofChange s with cond := some uptoSmall }

/-- 'insolvencylaw18.GuaranteeBroken', WHERE WHAT IT READS IS OF BULK AT MOST 1048576: true; the input reads as it did. -/
def guaranteeBrokenUptoRow : OpenClaim := { program := "ytcgpghifhehlhaagreatdoor", sum := "8fa8ddaa4b576d8d6be495712b0d961617f2917393643c1a00b6975f64f8425a", func := "insolvency/insolvencylaw18.GuaranteeBroken", spec := "guaranteeBroken", inPlace := ["internal/bytealg.IndexByteString", "internal/bytealg.IndexString", "internal/bytealg.abigen_runtime_cmpstring"], unfollowed := true, recurses := true, named := ["unicode/utf8.first", "unicode/utf8.acceptRanges", "internal/bytealg.MaxLen"], plainKeys := false, apart := false, laid := [("unicode/utf8.acceptRanges", laid_unicode_utf8_acceptRanges), ("unicode/utf8.first", laid_unicode_utf8_first)], narrowed := true }
def GuaranteeBrokenUptoSaid : Prop := guaranteeBrokenUptoRow.holds Tryz.pinned (OpenSpec.upto guaranteeBrokenSpec)

/-- 'insolvencylaw28.ClawbackRevive', WHERE WHAT IT READS IS OF BULK AT MOST 1048576: true; the input reads as it did. -/
def clawbackReviveUptoRow : OpenClaim := { program := "ytcgpghifhehlhaagreatdoor", sum := "8fa8ddaa4b576d8d6be495712b0d961617f2917393643c1a00b6975f64f8425a", func := "insolvency/insolvencylaw28.ClawbackRevive", spec := "clawbackRevive", inPlace := ["internal/bytealg.IndexByteString", "internal/bytealg.IndexString", "internal/bytealg.abigen_runtime_cmpstring"], unfollowed := true, recurses := true, named := ["unicode/utf8.first", "unicode/utf8.acceptRanges", "internal/bytealg.MaxLen"], plainKeys := false, apart := false, laid := [("unicode/utf8.acceptRanges", laid_unicode_utf8_acceptRanges), ("unicode/utf8.first", laid_unicode_utf8_first)], narrowed := true }
def ClawbackReviveUptoSaid : Prop := clawbackReviveUptoRow.holds Tryz.pinned (OpenSpec.upto clawbackReviveSpec)

/-- 'insolvencylaw28.ClawbackLong', WHERE WHAT IT READS IS OF BULK AT MOST 1048576: true; the input reads as it did. -/
def clawbackLongUptoRow : OpenClaim := { program := "ytcgpghifhehlhaagreatdoor", sum := "8fa8ddaa4b576d8d6be495712b0d961617f2917393643c1a00b6975f64f8425a", func := "insolvency/insolvencylaw28.ClawbackLong", spec := "clawbackLong", inPlace := ["internal/bytealg.IndexByteString", "internal/bytealg.IndexString", "internal/bytealg.abigen_runtime_cmpstring"], unfollowed := true, recurses := true, named := ["unicode/utf8.first", "unicode/utf8.acceptRanges", "internal/bytealg.MaxLen"], plainKeys := false, apart := false, laid := [("unicode/utf8.acceptRanges", laid_unicode_utf8_acceptRanges), ("unicode/utf8.first", laid_unicode_utf8_first)], narrowed := true }
def ClawbackLongUptoSaid : Prop := clawbackLongUptoRow.holds Tryz.pinned (OpenSpec.upto clawbackLongSpec)

/-- 'insolvencylaw28.ClawbackReturns', WHERE WHAT IT READS IS OF BULK AT MOST 1048576: true; the input reads as it did. -/
def clawbackReturnsUptoRow : OpenClaim := { program := "ytcgpghifhehlhaagreatdoor", sum := "8fa8ddaa4b576d8d6be495712b0d961617f2917393643c1a00b6975f64f8425a", func := "insolvency/insolvencylaw28.ClawbackReturns", spec := "clawbackReturns", inPlace := ["internal/bytealg.IndexByteString", "internal/bytealg.IndexString", "internal/bytealg.abigen_runtime_cmpstring"], unfollowed := true, recurses := true, named := ["unicode/utf8.first", "unicode/utf8.acceptRanges", "internal/bytealg.MaxLen"], plainKeys := false, apart := false, laid := [("unicode/utf8.acceptRanges", laid_unicode_utf8_acceptRanges), ("unicode/utf8.first", laid_unicode_utf8_first)], narrowed := true }
def ClawbackReturnsUptoSaid : Prop := clawbackReturnsUptoRow.holds Tryz.pinned (OpenSpec.upto clawbackReturnsSpec)

/-- 'insolvencylaw28.ClawbackMerge', WHERE WHAT IT READS IS OF BULK AT MOST 1048576: true; the input reads as it did. -/
def clawbackMergeUptoRow : OpenClaim := { program := "ytcgpghifhehlhaagreatdoor", sum := "8fa8ddaa4b576d8d6be495712b0d961617f2917393643c1a00b6975f64f8425a", func := "insolvency/insolvencylaw28.ClawbackMerge", spec := "clawbackMerge", inPlace := ["internal/bytealg.IndexByteString", "internal/bytealg.IndexString", "internal/bytealg.abigen_runtime_cmpstring"], unfollowed := true, recurses := true, named := ["unicode/utf8.first", "unicode/utf8.acceptRanges", "internal/bytealg.MaxLen"], plainKeys := false, apart := false, laid := [("unicode/utf8.acceptRanges", laid_unicode_utf8_acceptRanges), ("unicode/utf8.first", laid_unicode_utf8_first)], narrowed := true }
def ClawbackMergeUptoSaid : Prop := clawbackMergeUptoRow.holds Tryz.pinned (OpenSpec.upto clawbackMergeSpec)

/-- 'insolvencylaw28.ClawbackMany', WHERE WHAT IT READS IS OF BULK AT MOST 1048576: true; the input reads as it did. -/
def clawbackManyUptoRow : OpenClaim := { program := "ytcgpghifhehlhaagreatdoor", sum := "8fa8ddaa4b576d8d6be495712b0d961617f2917393643c1a00b6975f64f8425a", func := "insolvency/insolvencylaw28.ClawbackMany", spec := "clawbackMany", inPlace := ["internal/bytealg.IndexByteString", "internal/bytealg.IndexString", "internal/bytealg.abigen_runtime_cmpstring"], unfollowed := true, recurses := true, named := ["unicode/utf8.first", "unicode/utf8.acceptRanges", "internal/bytealg.MaxLen"], plainKeys := false, apart := false, laid := [("unicode/utf8.acceptRanges", laid_unicode_utf8_acceptRanges), ("unicode/utf8.first", laid_unicode_utf8_first)], narrowed := true }
def ClawbackManyUptoSaid : Prop := clawbackManyUptoRow.holds Tryz.pinned (OpenSpec.upto clawbackManySpec)

/-- 'insolvencylaw28.ClawbackOrder', WHERE WHAT IT READS IS OF BULK AT MOST 1048576: true; the input reads as it did. -/
def clawbackOrderUptoRow : OpenClaim := { program := "ytcgpghifhehlhaagreatdoor", sum := "8fa8ddaa4b576d8d6be495712b0d961617f2917393643c1a00b6975f64f8425a", func := "insolvency/insolvencylaw28.ClawbackOrder", spec := "clawbackOrder", inPlace := ["internal/bytealg.IndexByteString", "internal/bytealg.IndexString", "internal/bytealg.abigen_runtime_cmpstring"], unfollowed := true, recurses := true, named := ["unicode/utf8.first", "unicode/utf8.acceptRanges", "internal/bytealg.MaxLen"], plainKeys := false, apart := false, laid := [("unicode/utf8.acceptRanges", laid_unicode_utf8_acceptRanges), ("unicode/utf8.first", laid_unicode_utf8_first)], narrowed := true }
def ClawbackOrderUptoSaid : Prop := clawbackOrderUptoRow.holds Tryz.pinned (OpenSpec.upto clawbackOrderSpec)

end Rows
end Go.Proofs.YtcgpghifhehlhaaGreatDoor
