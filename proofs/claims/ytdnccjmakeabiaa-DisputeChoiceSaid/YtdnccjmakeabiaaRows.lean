/-
  No cell of these rows narrows 'for every input' (looked for: loops, veiled, ifaces, maps, wideKeys, modest, calm, conditions, laid).
  DERIVED. THE GIVEN ROWS OF THIS SEAT. 3 by the template 'for every input the law returns true; each argument reads behind the call as it read before'; 0 by the template 'total and deterministic' (their statements: YtdnccjmakeabiaaTotals.lean).
  GIVEN WITH THE SEED: the statements are not yours to turn. If you find one false, say at which input.
  Laid BY PROGRAM, IN A SANDBOX (cutbox-rows.mjs): the forced cells as the released guide's own fill.sh prints them over the translation 25748ca3b21fe53d… (all of the seat's roots in one cut). By AI agents, Wed Nov 11 2026. No macro, syntax, notation, axiom, sorry.
-/
import Derived.Test.YtdnccjmakeabiaaChecked
import GoSem.Claim
import GoSem.ClaimJoined
import GoSem.ClaimMapViews
import Derived.JoinedTies
import Derived.KernelRfl
namespace Go.Proofs.Ytdnccjmakeabiaa
/- THE CELL 'sum', in the pinned program and in every row, IS THE sha256 OF THE DUMP (.gsa) THAT YtdnccjmakeabiaaProg.lean LOADS. Nothing in Lean hashes anything: it is a label: what it is worth is what the hold of that sum in a sandbox is worth. -/
noncomputable def Try.pinned : Pinned := { name := "ytdnccjmakeabiaa", sum := "25748ca3b21fe53d013f655ab924b91cf115069617c3db3758bfc1d626bbbe40", checked := Try.checked }
namespace Rows
def none {H : Type} : Left H := { results := [], args := [] }

/-- 'insolvencylaw22.DisputeCount': WHATEVER THE INPUT: true; the input reads as it did. -/
def disputeCountSpec : ChangeSpec := { name := "disputeCount", fn := fun _ => fun
  | [d] => { results := [.lit (.bool true)], args := [d] }
  | _ => none }
def disputeCountRow : OpenClaim := { program := "ytdnccjmakeabiaa", sum := "25748ca3b21fe53d013f655ab924b91cf115069617c3db3758bfc1d626bbbe40", func := "insolvency/insolvencylaw22.DisputeCount", spec := "disputeCount", apart := false }
def DisputeCountSaid : Prop := disputeCountRow.holds Try.pinned (OpenSpec.ofChange disputeCountSpec)

/-- ITS FALSE NEIGHBOUR: 'it returns false'. Refute it at one input. -/
def disputeCountWrong : ChangeSpec := { name := "disputeCount", fn := fun _ => fun
  | [d] => { results := [.lit (.bool false)], args := [d] }
  | _ => none }
def DisputeCountWrongFalsely : Prop := disputeCountRow.holds Try.pinned (OpenSpec.ofChange disputeCountWrong)

/-- 'insolvencylaw22.DisputeChoice': WHATEVER THE INPUT: true; the input reads as it did. -/
def disputeChoiceSpec : ChangeSpec := { name := "disputeChoice", fn := fun _ => fun
  | [d1, d2, d3] => { results := [.lit (.bool true)], args := [d1, d2, d3] }
  | _ => none }
def disputeChoiceRow : OpenClaim := { program := "ytdnccjmakeabiaa", sum := "25748ca3b21fe53d013f655ab924b91cf115069617c3db3758bfc1d626bbbe40", func := "insolvency/insolvencylaw22.DisputeChoice", spec := "disputeChoice", apart := false }
def DisputeChoiceSaid : Prop := disputeChoiceRow.holds Try.pinned (OpenSpec.ofChange disputeChoiceSpec)

/-- ITS FALSE NEIGHBOUR: 'it returns false'. Refute it at one input. -/
def disputeChoiceWrong : ChangeSpec := { name := "disputeChoice", fn := fun _ => fun
  | [d1, d2, d3] => { results := [.lit (.bool false)], args := [d1, d2, d3] }
  | _ => none }
def DisputeChoiceWrongFalsely : Prop := disputeChoiceRow.holds Try.pinned (OpenSpec.ofChange disputeChoiceWrong)

/-- 'insolvencylaw22.DisputeNumbers': WHATEVER THE INPUT: true; the input reads as it did. -/
def disputeNumbersSpec : ChangeSpec := { name := "disputeNumbers", fn := fun _ => fun
  | [d1, d2, d3, d4, d5, d6] => { results := [.lit (.bool true)], args := [d1, d2, d3, d4, d5, d6] }
  | _ => none }
def disputeNumbersRow : OpenClaim := { program := "ytdnccjmakeabiaa", sum := "25748ca3b21fe53d013f655ab924b91cf115069617c3db3758bfc1d626bbbe40", func := "insolvency/insolvencylaw22.DisputeNumbers", spec := "disputeNumbers", apart := false }
def DisputeNumbersSaid : Prop := disputeNumbersRow.holds Try.pinned (OpenSpec.ofChange disputeNumbersSpec)

/-- ITS FALSE NEIGHBOUR: 'it returns false'. Refute it at one input. -/
def disputeNumbersWrong : ChangeSpec := { name := "disputeNumbers", fn := fun _ => fun
  | [d1, d2, d3, d4, d5, d6] => { results := [.lit (.bool false)], args := [d1, d2, d3, d4, d5, d6] }
  | _ => none }
def DisputeNumbersWrongFalsely : Prop := disputeNumbersRow.holds Try.pinned (OpenSpec.ofChange disputeNumbersWrong)

/- THE SECOND FORM. 'bulk': how many values and letters a reading holds, each counted each time it is reached (what is shared counts as often as it is met; a slice's spare places count too). A statement '..UptoSaid' is the law's where the arguments, and the package variables that the reading takes, are together of bulk at most 1048576: NARROWER than '..Said'. Prove '..Said' where nothing that the law and all that it calls make is longer than what came in: it says more and counts as full. Else prove '..UptoSaid'. A law counts once. -/
mutual
def uptoBulk {H : Type} : DataW H → Nat
  | .lit (.string bytes) => bytes.length + 1
  | .lit _ => 1
  | .nil => 1
  | .ptr d => uptoBulk d + 1
  | .slice elems spare => uptoBulkAll elems + uptoBulkAll spare + 1
  | .agg parts => uptoBulkAll parts + 1
  | .iface _ d => uptoBulk d + 1
  | .map entries => uptoBulkEntries entries + 1
  | .held _ => 1
def uptoBulkAll {H : Type} : List (DataW H) → Nat
  | [] => 0
  | d :: r => uptoBulk d + uptoBulkAll r
def uptoBulkEntries {H : Type} : List (Lit × DataW H) → Nat
  | [] => 0
  | x :: r => uptoBulkEntry x + uptoBulkEntries r
def uptoBulkEntry {H : Type} : Lit × DataW H → Nat
  | (.string bytes, d) => bytes.length + uptoBulk d + 1
  | (_, d) => uptoBulk d + 1
 end
def uptoSmall : (H : Type) → List (DataW H) → Bool := fun _ ds => decide (uptoBulkAll ds ≤ 1048576)
def OpenSpec.upto (s : _root_.Go.ChangeSpec) : _root_.Go.OpenSpec := { _root_.Go.OpenSpec.ofChange s with cond := some uptoSmall }

/-- 'insolvencylaw22.DisputeCount', WHERE WHAT IT READS IS OF BULK AT MOST 1048576: true; the input reads as it did. -/
def disputeCountUptoRow : OpenClaim := { program := "ytdnccjmakeabiaa", sum := "25748ca3b21fe53d013f655ab924b91cf115069617c3db3758bfc1d626bbbe40", func := "insolvency/insolvencylaw22.DisputeCount", spec := "disputeCount", apart := false, narrowed := true }
def DisputeCountUptoSaid : Prop := disputeCountUptoRow.holds Try.pinned (OpenSpec.upto disputeCountSpec)

/-- 'insolvencylaw22.DisputeChoice', WHERE WHAT IT READS IS OF BULK AT MOST 1048576: true; the input reads as it did. -/
def disputeChoiceUptoRow : OpenClaim := { program := "ytdnccjmakeabiaa", sum := "25748ca3b21fe53d013f655ab924b91cf115069617c3db3758bfc1d626bbbe40", func := "insolvency/insolvencylaw22.DisputeChoice", spec := "disputeChoice", apart := false, narrowed := true }
def DisputeChoiceUptoSaid : Prop := disputeChoiceUptoRow.holds Try.pinned (OpenSpec.upto disputeChoiceSpec)

/-- 'insolvencylaw22.DisputeNumbers', WHERE WHAT IT READS IS OF BULK AT MOST 1048576: true; the input reads as it did. -/
def disputeNumbersUptoRow : OpenClaim := { program := "ytdnccjmakeabiaa", sum := "25748ca3b21fe53d013f655ab924b91cf115069617c3db3758bfc1d626bbbe40", func := "insolvency/insolvencylaw22.DisputeNumbers", spec := "disputeNumbers", apart := false, narrowed := true }
def DisputeNumbersUptoSaid : Prop := disputeNumbersUptoRow.holds Try.pinned (OpenSpec.upto disputeNumbersSpec)

end Rows
end Go.Proofs.Ytdnccjmakeabiaa
