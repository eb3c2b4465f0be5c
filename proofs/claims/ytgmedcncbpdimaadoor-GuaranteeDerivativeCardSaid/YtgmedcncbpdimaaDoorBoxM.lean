/- Boxes of rationals in a call's own blocks. -/
import Derived.Test.YtgmedcncbpdimaaDoorRat8M
import Derived.Deep.DrawnRows
set_option linter.unusedVariables false
set_option linter.unusedSimpArgs false
/- Boxes of rationals in a call's own blocks. -/
namespace Go.Proofs.YtgmedcncbpdimaaDoor
open Go.RowKit

theorem RNat.drew {w : World} {v : Value} {n : Nat} (h : RNat w v n) : RNat w.drew v n := h

/-- Block b is the box of r. -/
def Bx (w : World) (b : Nat) (r : GRat) : Prop := Blk3 w b 25 (.bool r.neg) (.string r.num) (.string r.den)
theorem Bx.below {w w' : World} {b : Nat} {r : GRat} (h : Bx w b r) (hb : Below w.heap.size w w') : Bx w' b r := Blk3.below h hb (Blk3.lt h)
theorem Bx.new (w : World) (r : GRat) : Bx (w.alloc (.cells #[.bool r.neg, .string r.num, .string r.den] 25)) w.heap.size r := Blk3.new w _ _ _ _
theorem Bx.alloc {w : World} {b : Nat} {r : GRat} (h : Bx w b r) (o : Obj) : Bx (w.alloc o) b r := Blk3.alloc h o
theorem Bx.drew {w : World} {b : Nat} {r : GRat} (h : Bx w b r) : Bx w.drew b r := h
theorem Bx.facts {w : World} {b : Nat} {r : GRat} (h : Bx w b r) :
    w.cell? ⟨b, 0, none⟩ = some (.bool r.neg) ∧ w.cell? ⟨b, 1, none⟩ = some (.string r.num) ∧ w.cell? ⟨b, 2, none⟩ = some (.string r.den) ∧ (∀ j, w.frozen? ⟨b, j, none⟩ = false) ∧ b < w.heap.size :=
  ⟨h.cells.1, h.cells.2.1, h.cells.2.2.1, h.cells.2.2.2, Blk3.lt h⟩
def gZ : GRat := ⟨false, { data := #[] }, { data := #[] }⟩
theorem gZ_enc : gZ = enc 0 := by rw [enc_zero]; rfl

/-- A call's three boxes: two arguments and a result. -/
def Bx3 (w w1 : World) (r1 r2 : GRat) : Prop := Bx w1 w.heap.size r1 ∧ Bx w1 (w.heap.size + 1) r2 ∧ Bx w1 (w.heap.size + 1 + 1) gZ ∧ Below w.heap.size w w1
theorem Bx3.new (w : World) (r1 r2 : GRat) : Bx3 w (((w.alloc (.cells #[.bool r1.neg, .string r1.num, .string r1.den] 25)).alloc (.cells #[.bool r2.neg, .string r2.num, .string r2.den] 25)).alloc (.cells #[.bool false, .string { data := #[] }, .string { data := #[] }] 25)) r1 r2 := by
  have e1 : (w.alloc (.cells #[.bool r1.neg, .string r1.num, .string r1.den] 25)).heap.size = w.heap.size + 1 := by simp
  have h2 := Bx.new (w.alloc (.cells #[.bool r1.neg, .string r1.num, .string r1.den] 25)) r2
  rw [e1] at h2
  have e2 : ((w.alloc (.cells #[.bool r1.neg, .string r1.num, .string r1.den] 25)).alloc (.cells #[.bool r2.neg, .string r2.num, .string r2.den] 25)).heap.size = w.heap.size + 1 + 1 := by simp
  have h3 := Bx.new ((w.alloc (.cells #[.bool r1.neg, .string r1.num, .string r1.den] 25)).alloc (.cells #[.bool r2.neg, .string r2.num, .string r2.den] 25)) gZ
  rw [e2] at h3
  exact ⟨((Bx.new w r1).alloc _).alloc _, h2.alloc _, h3, (((Below.refl _ _).alloc (Nat.le_refl _) _).alloc (by simp) _).alloc (by simp; omega) _⟩
theorem Bx3.next {w w1 w2 : World} {r1 r2 : GRat} (h : Bx3 w w1 r1 r2) (hb : Below w1.heap.size w1 w2) : Bx3 w w2 r1 r2 :=
  ⟨h.1.below hb, h.2.1.below hb, h.2.2.1.below hb, h.2.2.2.step hb⟩
theorem Bx3.ret {w w1 : World} {r1 r2 : GRat} (h : Bx3 w w1 r1 r2) (q : GRat) :
    Blk3 (((w1.setCell ⟨w.heap.size + 1 + 1, 0, none⟩ (.bool q.neg)).setCell ⟨w.heap.size + 1 + 1, 1, none⟩ (.string q.num)).setCell ⟨w.heap.size + 1 + 1, 2, none⟩ (.string q.den)) (w.heap.size + 1 + 1) 25 (.bool q.neg) (.string q.num) (.string q.den) ∧
    Below w.heap.size w (((w1.setCell ⟨w.heap.size + 1 + 1, 0, none⟩ (.bool q.neg)).setCell ⟨w.heap.size + 1 + 1, 1, none⟩ (.string q.num)).setCell ⟨w.heap.size + 1 + 1, 2, none⟩ (.string q.den)) :=
  ⟨(Blk3.stored h.2.2.1 _ _ _).2.2.2, ((h.2.2.2.setCell (by simp; omega) _).setCell (by simp; omega) _).setCell (by simp; omega) _⟩

theorem Bx3.drew {w w1 : World} {r1 r2 : GRat} (h : Bx3 w w1 r1 r2) : Bx3 w w1.drew r1 r2 := ⟨h.1.drew, h.2.1.drew, h.2.2.1.drew, Below.drew h.2.2.2⟩

/-- Two boxes: an argument and a result, or two arguments. -/
def Bx2 (w w1 : World) (r1 r2 : GRat) : Prop := Bx w1 w.heap.size r1 ∧ Bx w1 (w.heap.size + 1) r2 ∧ Below w.heap.size w w1
theorem Bx2.new (w : World) (r1 r2 : GRat) : Bx2 w ((w.alloc (.cells #[.bool r1.neg, .string r1.num, .string r1.den] 25)).alloc (.cells #[.bool r2.neg, .string r2.num, .string r2.den] 25)) r1 r2 := by
  have e1 : (w.alloc (.cells #[.bool r1.neg, .string r1.num, .string r1.den] 25)).heap.size = w.heap.size + 1 := by simp
  have h2 := Bx.new (w.alloc (.cells #[.bool r1.neg, .string r1.num, .string r1.den] 25)) r2
  rw [e1] at h2
  exact ⟨(Bx.new w r1).alloc _, h2, ((Below.refl _ _).alloc (Nat.le_refl _) _).alloc (by simp) _⟩
theorem Bx2.next {w w1 w2 : World} {r1 r2 : GRat} (h : Bx2 w w1 r1 r2) (hb : Below w1.heap.size w1 w2) : Bx2 w w2 r1 r2 :=
  ⟨h.1.below hb, h.2.1.below hb, h.2.2.step hb⟩
theorem Bx2.ret {w w1 : World} {r1 r2 : GRat} (h : Bx2 w w1 r1 r2) (q : GRat) :
    Blk3 (((w1.setCell ⟨w.heap.size + 1, 0, none⟩ (.bool q.neg)).setCell ⟨w.heap.size + 1, 1, none⟩ (.string q.num)).setCell ⟨w.heap.size + 1, 2, none⟩ (.string q.den)) (w.heap.size + 1) 25 (.bool q.neg) (.string q.num) (.string q.den) ∧
    Below w.heap.size w (((w1.setCell ⟨w.heap.size + 1, 0, none⟩ (.bool q.neg)).setCell ⟨w.heap.size + 1, 1, none⟩ (.string q.num)).setCell ⟨w.heap.size + 1, 2, none⟩ (.string q.den)) :=
  ⟨(Blk3.stored h.2.1 _ _ _).2.2.2, ((h.2.2.setCell (by simp) _).setCell (by simp) _).setCell (by simp) _⟩

theorem Bx2.drew {w w1 : World} {r1 r2 : GRat} (h : Bx2 w w1 r1 r2) : Bx2 w w1.drew r1 r2 := ⟨h.1.drew, h.2.1.drew, Below.drew h.2.2⟩

/-- One box: a result. -/
def Bx1 (w w1 : World) : Prop := Bx w1 w.heap.size gZ ∧ Below w.heap.size w w1
theorem Bx1.new (w : World) : Bx1 w (w.alloc (.cells #[.bool false, .string { data := #[] }, .string { data := #[] }] 25)) := ⟨Bx.new w gZ, (Below.refl _ _).alloc (Nat.le_refl _) _⟩
theorem Bx1.next {w w1 w2 : World} (h : Bx1 w w1) (hb : Below w1.heap.size w1 w2) : Bx1 w w2 := ⟨h.1.below hb, h.2.step hb⟩
theorem Bx1.ret {w w1 : World} (h : Bx1 w w1) (q : GRat) :
    Blk3 (((w1.setCell ⟨w.heap.size, 0, none⟩ (.bool q.neg)).setCell ⟨w.heap.size, 1, none⟩ (.string q.num)).setCell ⟨w.heap.size, 2, none⟩ (.string q.den)) w.heap.size 25 (.bool q.neg) (.string q.num) (.string q.den) ∧
    Below w.heap.size w (((w1.setCell ⟨w.heap.size, 0, none⟩ (.bool q.neg)).setCell ⟨w.heap.size, 1, none⟩ (.string q.num)).setCell ⟨w.heap.size, 2, none⟩ (.string q.den)) :=
  ⟨(Blk3.stored h.1 _ _ _).2.2.2, ((h.2.setCell (Nat.le_refl _) _).setCell (Nat.le_refl _) _).setCell (Nat.le_refl _) _⟩

end Go.Proofs.YtgmedcncbpdimaaDoor
