/- guarantee.positive, insolvencyref17.amount, insolvencylaw0: Whole, Ratio, Amount, Few, FewRats: walked. -/
import Derived.Test.YtokmkopihhnggaaGreatDoorAdd1M
import Derived.Test.YtokmkopihhnggaaGreatDoorWf6M
import Derived.Test.YtokmkopihhnggaaGreatDoorAbTM
set_option linter.unusedVariables false
set_option linter.unusedSimpArgs false
set_option linter.defProp false
set_option linter.unnecessarySimpa false
section
/- guarantee.positive, insolvencyref17.amount, insolvencylaw0: Whole, Ratio, Amount, Few, FewRats: walked. -/
namespace Go.Proofs.YtokmkopihhnggaaGreatDoor
open Go.RowKit
theorem qOf_gZ : qOf gZ = 0 := by rw [gZ_enc, qOf_enc]
theorem sB_gZ : sB 1 gZ := ⟨by decide, by decide⟩
theorem Ratio_ok (a b : Nat) (w : World) (ha : a ≤ 9223372036854775807) (hb : b ≤ 9223372036854775807) (hd : 0 < b) :
    Calls Tryz.prog 40 #[.int .i64 a, .int .i64 b] w fun e w' => e = .returned (vRat (enc (mkRat (a : Int) b))) ∧ Below w.heap.size w w' := by
  have F := hid (fun w => rFraction_ok a b w ha hb hd)
  have HX := hid (Bx1.new w)
  generalize enc (mkRat (a : Int) b) = q at *
  unfold vRat at F
  unfold vRat
  go_enter Tryz.func40, Tryz.ntmps40
  go_wp2_with fail
  refine Calls.mono (F.out _) ?_
  rintro e w1 ⟨rfl, hb1⟩
  have hx := HX.out.next hb1
  obtain ⟨t0, t1, t2, t3, t4⟩ := hx.1.facts
  have S := hid (hx.1.put q)
  have hbx := hid (below_put hx.2 (Nat.le_refl _) q)
  go_wp2
  refine ret_blk3 (Blk3.alloc S.out _) (fun W' c0 c1 c2 => by simp [results, Tryz.results40, go_sem, c0, c1, c2]) rfl ⟨rfl, hbx.out.alloc (Below.size hbx.out) _⟩
end Go.Proofs.YtokmkopihhnggaaGreatDoor
end
section
/- The builder's agreements; walked by the abstract machine. -/
namespace Go.Proofs.YtokmkopihhnggaaGreatDoor
open Go Go.RowKit
structure T3 where
  a : List GPart
  b : List GPart
  c : List GPart
def T3.put (T : T3) (x : Nat) (p : GPart) : T3 := if x = 1 then ⟨T.a ++ [p], T.b, T.c⟩ else if x = 2 then ⟨T.a, T.b ++ [p], T.c⟩ else ⟨T.a, T.b, T.c ++ [p]⟩
theorem wri (n : Nat) (h : n < 9223372036854775808) : IntKind.i64.wrap (n : Int) = n := wrap_in ((inK_i64 _).2 ⟨by omega, by omega⟩)
end Go.Proofs.YtokmkopihhnggaaGreatDoor
end
