/- The arithmetic of both sides as contracts on plain data. -/
import Derived.Test.YtokmkopihhnggaaPl2M
import Derived.Test.YtokmkopihhnggaaQ2M
import Derived.Test.YtokmkopihhnggaaAbTM
import Derived.Test.YtokmkopihhnggaaAbYM
import Derived.Test.YtokmkopihhnggaaBl6M
import Derived.Test.YtokmkopihhnggaaGu1M
set_option linter.unusedVariables false
set_option linter.unusedSimpArgs false
set_option linter.defProp false
set_option linter.unnecessarySimpa false
section
/- The arithmetic of both sides as contracts on plain data. -/
namespace Go.Proofs.Ytokmkopihhnggaa
open Go Go.RowKit
end Go.Proofs.Ytokmkopihhnggaa
end
section
/- Classes: eligible, form, on both sides; walked by the abstract machine. -/
namespace Go.Proofs.Ytokmkopihhnggaa
open Go Go.RowKit
structure GCls where
  est : Int
  rank : Int
  small : Bool
  claims : List Int
end Go.Proofs.Ytokmkopihhnggaa
end
section
/- Classes in plain terms: what Form, Check and Sum answer; both checks agree. No walk. -/
namespace Go.Proofs.Ytokmkopihhnggaa
open Go Go.RowKit
end Go.Proofs.Ytokmkopihhnggaa
end
section
/- Classes: Form on both sides; lists that are equal compared; walked by the abstract machine. -/
namespace Go.Proofs.Ytokmkopihhnggaa
open Go Go.RowKit
def F_rSI := And.intro zS (And.intro tf92 (And.intro tf93 (tf21)))
set_option maxRecDepth 100000 in
set_option maxHeartbeats 4000000 in
theorem SameInts_yes (l : List Int) (hl : l.length ≤ 1000000000000) : ACall Try.prog 12 [.one (.sh 1 l.length (flat cI l)), .one (.sh 1 l.length (flat cI l))] (one (.bool true)) := by
 refine acall_of Try.func12 rfl (by decide) (N := 26) rfl (by simp) (R := [.tmp 4]) rfl fun en k0 => ?_
 refine awR [] [none] ?_
 simp only [(id F_rSI), seval]
 repeat refine ob ?_
 refine awR [] [none, none, none, none, none] ?_
 simp only [(id F_rSI), seval, decide_true, Bool.not_true]
 repeat refine ob ?_
 refine awF ?_
 refine awK ?_
 simp only [(id F_rSI), seval]
 refine awR [] [none] ?_
 simp only [(id F_rSI), seval]
 repeat refine ob ?_
 refine awp_keep [0, 1, 5] [] ?_
 try unfold Later
 try simp only [(id F_rSI), seval]
 repeat' first|apply awS|apply awB
 refine awp_loopw (fun n st => ∃ k nx, k ≤ l.length ∧ n = l.length - k ∧ st = ⟨mkT [(0, .val (.one (.sh 1 l.length (flat cI l)))), (1, .val (.one (.sh 1 l.length (flat cI l)))), (5, one (.int .i64 k))], mkH [], nx, 0⟩) (l.length) ⟨0, _, by omega, by omega, rfl⟩ ?_
 rintro n0 st ⟨k, nx0, hk, rfl, rfl⟩
 by_cases hlt : (k : Int) < (l.length : Int)
 ·
  refine awR [] [none, none, none, none] ?_
  simp only [(id F_rSI), seval, hlt]
  repeat refine ob ?_
  refine awT ?_
  refine awK ?_
  simp only [(id F_rSI), seval]
  have hk2 : k < l.length := by omega
  have hat := flat_at cI_len l k hk2
  try rw [Nat.mul_one] at hat
  refine awD (scq [1, 3, 5, 7, 9, 11, 13, 15, 17] .nil) [none, none, none, none, none, none, none, none, none] ?_
  simp only [(id F_rSI), seval, hlt, hat, cI, decide_true, Bool.not_true, BEq.rfl]
  repeat refine ob ?_
  refine awF ?_
  refine awK ?_
  simp only [(id F_rSI), seval]
  refine awR [] [none, none, none] ?_
  simp only [(id F_rSI), seval, hlt]
  repeat refine ob ?_
  repeat refine ob ?_
  refine ⟨_, wk_keep [0, 1, 5] [], l.length - (k + 1), by omega, k + 1, ?na, by omega, rfl, ?st⟩
  case st => (simp only [(id F_rSI), seval]; first | rfl | (simp; done))
 refine awR [] [none, none, none, none] ?_
 simp only [(id F_rSI), seval, hlt]
 repeat refine ob ?_
 refine awF ?_
 refine awQ ?_
 simp only [(id F_rSI), seval]
 refine awR [] [none] ?_
 simp only [(id F_rSI), seval, hlt]
 repeat refine ob ?_
 refine awX ?_
 (first | (simp only [(id F_rSI), seval, hlt]; done) | (simp only [(id F_rSI), seval]; first | (simp [hlt]; done)))
end Go.Proofs.Ytokmkopihhnggaa
end
section
/- Plain law: a group that is built is valid; its legs are found where they stand, and there only. No walk. -/
namespace Go.Proofs.Ytokmkopihhnggaa
open Go Go.RowKit
end Go.Proofs.Ytokmkopihhnggaa
end
section
/- Classes: Sum on both sides; numbers compared; walked by the abstract machine. -/
namespace Go.Proofs.Ytokmkopihhnggaa
open Go Go.RowKit
end Go.Proofs.Ytokmkopihhnggaa
end
section
/- The sanity check of layer 29; walked by the abstract machine. -/
namespace Go.Proofs.Ytokmkopihhnggaa
open Go Go.RowKit
end Go.Proofs.Ytokmkopihhnggaa
end
section
/- Lists of rationals; FewRats, SameRats: walked. -/
namespace Go.Proofs.Ytokmkopihhnggaa
open Go.RowKit
def RL (w : World) (v : Value) (l : List GRat) : Prop := rSlice 3 rRat w (LT w.heap.size) [v] l
theorem RL.below {w w' : World} {v : Value} {l : List GRat} (h : RL w v l) (hb : Below w.heap.size w w') : RL w' v l := (stays_rSlice stays_rRat).below h hb hb.size
theorem RL.drew {w : World} {v : Value} {l : List GRat} (h : RL w v l) : RL w.drew v l := h
theorem RL.open {w : World} {v : Value} {l : List GRat} (h : RL w v l) :
    ∃ a cap, v = .slice a l.length cap ∧ l.length ≤ 9223372036854775807 ∧ (l = [] ∨ ∃ b off, a = some ⟨b, off, none⟩ ∧ b < w.heap.size ∧ ∀ j (h : j < l.length), w.cell? ⟨b, off + j * 3, none⟩ = some (.bool l[j].neg) ∧ w.cell? ⟨b, off + j * 3 + 1, none⟩ = some (.string l[j].num) ∧ w.cell? ⟨b, off + j * 3 + 2, none⟩ = some (.string l[j].den) ∧ sB maxLen l[j]) := by
  obtain ⟨a, cap, hv, h1, h2, h3, h4⟩ := h
  simp only [List.cons.injEq, and_true] at hv
  refine ⟨a, cap, hv, len_le h1 h2, ?_⟩
  rcases h4 with h4 | ⟨b, off, h5, h6, h7⟩
  · exact .inl h4
  refine .inr ⟨b, off, h5, h6, fun j hj => ?_⟩
  obtain ⟨cs, k1, k2, rfl, k3, k4⟩ := h7 j hj
  exact ⟨k2 0 (by decide), k2 1 (by decide), k2 2 (by decide), k3, k4⟩
end Go.Proofs.Ytokmkopihhnggaa
end
