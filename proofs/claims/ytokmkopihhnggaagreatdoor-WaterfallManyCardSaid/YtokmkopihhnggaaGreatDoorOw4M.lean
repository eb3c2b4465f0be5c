/- Late: ranks changed in a group that is the caller's own; walked by the abstract machine. -/
import Derived.Test.YtokmkopihhnggaaGreatDoorFewM
import Derived.Test.YtokmkopihhnggaaGreatDoorAbTM
import Derived.Test.YtokmkopihhnggaaGreatDoorAbBM
import Derived.Test.YtokmkopihhnggaaGreatDoorBl6M
import Derived.Test.YtokmkopihhnggaaGreatDoorRw6M
import Derived.Test.YtokmkopihhnggaaGreatDoorBl3M
import Derived.Test.YtokmkopihhnggaaGreatDoorWf6M
import Derived.Test.YtokmkopihhnggaaGreatDoorGu1M
set_option linter.unusedVariables false
set_option linter.unusedSimpArgs false
set_option linter.defProp false
set_option linter.unnecessarySimpa false
section
/- Late: ranks changed in a group that is the caller's own; walked by the abstract machine. -/
namespace Go.Proofs.YtokmkopihhnggaaGreatDoor
open Go Go.RowKit
end Go.Proofs.YtokmkopihhnggaaGreatDoor
end
section
/- Classes: eligible, form, on both sides; walked by the abstract machine. -/
namespace Go.Proofs.YtokmkopihhnggaaGreatDoor
open Go Go.RowKit
structure GCls where
  est : Int
  rank : Int
  small : Bool
  claims : List Int
end Go.Proofs.YtokmkopihhnggaaGreatDoor
end
section
/- Classes in plain terms: what Form, Check and Sum answer; both checks agree. No walk. -/
namespace Go.Proofs.YtokmkopihhnggaaGreatDoor
open Go Go.RowKit
end Go.Proofs.YtokmkopihhnggaaGreatDoor
end
section
/- Classes: Form on both sides; lists that are equal compared; walked by the abstract machine. -/
namespace Go.Proofs.YtokmkopihhnggaaGreatDoor
open Go Go.RowKit
end Go.Proofs.YtokmkopihhnggaaGreatDoor
end
section
/- Plain law: a group that is built is valid; its legs are found where they stand, and there only. No walk. -/
namespace Go.Proofs.YtokmkopihhnggaaGreatDoor
open Go Go.RowKit
end Go.Proofs.YtokmkopihhnggaaGreatDoor
end
section
/- Classes: Sum on both sides; numbers compared; walked by the abstract machine. -/
namespace Go.Proofs.YtokmkopihhnggaaGreatDoor
open Go Go.RowKit
end Go.Proofs.YtokmkopihhnggaaGreatDoor
end
section
/- The sanity check of layer 29; walked by the abstract machine. -/
namespace Go.Proofs.YtokmkopihhnggaaGreatDoor
open Go Go.RowKit
end Go.Proofs.YtokmkopihhnggaaGreatDoor
end
section
/- Plain numbers, rows of numbers and rows of fixed rows of numbers, opened as cells. -/
namespace Go.Proofs.YtokmkopihhnggaaGreatDoor
open Go Go.RowKit Go.ChangeShapes Go.WideShapes Go.ChangeAt
theorem opensC_u8 : Opens Tryz.prog 5 (rC (fun n : Nat => [.lit (.int .u8 n)]) (· < 256)) := by
  intro H enc W fuel cs x h
  obtain ⟨n, rfl, hn⟩ := opens_u8 Tryz.underlying5 H enc W fuel cs x h
  exact ⟨n, ⟨⟨rfl, rfl⟩, trivial⟩, hn⟩
end Go.Proofs.YtokmkopihhnggaaGreatDoor
end
section
/- Lists of rationals; FewRats, SameRats: walked. -/
namespace Go.Proofs.YtokmkopihhnggaaGreatDoor
open Go.RowKit
def RL (w : World) (v : Value) (l : List GRat) : Prop := rSlice 3 rRat w (LT w.heap.size) [v] l
theorem RL.below {w w' : World} {v : Value} {l : List GRat} (h : RL w v l) (hb : Below w.heap.size w w') : RL w' v l := (stays_rSlice stays_rRat).below h hb hb.size
theorem RL.drew {w : World} {v : Value} {l : List GRat} (h : RL w v l) : RL w.drew v l := h
theorem RL.open {w : World} {v : Value} {l : List GRat} (h : RL w v l) :
    ∃ a cap, v = .slice a l.length cap ∧ l.length ≤ 9223372036854775807 ∧ (l = [] ∨ ∃ b off, a = some ⟨b, off, none⟩ ∧ b < w.heap.size ∧ ∀ j (h : j < l.length), w.cell? ⟨b, off + j * 3, none⟩ = some (.bool l[j].neg) ∧ w.cell? ⟨b, off + j * 3 + 1, none⟩ = some (.string l[j].num) ∧ w.cell? ⟨b, off + j * 3 + 2, none⟩ = some (.string l[j].den) ∧ sB maxLen l[j]) := by
  obtain ⟨a, cap, hv, h1, h2, h3, h4⟩ := h
  simp only [List.cons.injEq, and_true] at hv
  refine ⟨a, cap, hv, len_le h1 h2, ?_⟩
  rcases h4 with h4 | ⟨b, off, h5, h6, h7⟩
  · exact .inl h4
  refine .inr ⟨b, off, h5, h6, fun j hj => ?_⟩
  obtain ⟨cs, k1, k2, rfl, k3, k4⟩ := h7 j hj
  exact ⟨k2 0 (by decide), k2 1 (by decide), k2 2 (by decide), k3, k4⟩
end Go.Proofs.YtokmkopihhnggaaGreatDoor
end
