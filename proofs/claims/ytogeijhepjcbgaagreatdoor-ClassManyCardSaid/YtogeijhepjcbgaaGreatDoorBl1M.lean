/- The builder's helpers: free, taken; walked by the abstract machine. -/
import Derived.Test.YtogeijhepjcbgaaGreatDoorLawM
import Derived.Test.YtogeijhepjcbgaaGreatDoorSm2M
set_option linter.unusedVariables false
set_option linter.unusedSimpArgs false
set_option linter.defProp false
set_option linter.unnecessarySimpa false
section
/- The builder's helpers: free, taken; walked by the abstract machine. -/
namespace Go.Proofs.YtogeijhepjcbgaaGreatDoor
open Go Go.RowKit
end Go.Proofs.YtogeijhepjcbgaaGreatDoor
end
section
/- guarantee.positive, insolvencyref17.amount, insolvencylaw0: Whole, Ratio, Amount, Few, FewRats: walked. -/
namespace Go.Proofs.YtogeijhepjcbgaaGreatDoor
open Go.RowKit
theorem qOf_gZ : qOf gZ = 0 := by rw [gZ_enc, qOf_enc]
theorem Whole_any (n : Int) (w : World) (h0 : -9223372036854775808 ≤ n) (h1 : n ≤ 9223372036854775807) : Calls Tryz.prog 19 #[.int .i64 n] w fun e w' => e = .returned (vRat (enc (n : Rat))) ∧ Below w.heap.size w w' := by
  have I := hid (fun w => rInt_any n w h0 h1)
  have HX := hid (Bx1.new w)
  generalize enc (n : Rat) = a at *
  unfold vRat at I
  unfold vRat
  go_enter Tryz.func19, Tryz.ntmps19
  go_wp2_with fail
  refine Calls.mono (I.out _) ?_
  rintro e w1 ⟨rfl, hb1⟩
  have hx := HX.out.next hb1
  obtain ⟨t0, t1, t2, t3, t4⟩ := hx.1.facts
  go_wp2
  refine ret_blk3 (hx.ret a).1 (fun W' c0 c1 c2 => by simp [results, Tryz.results19, go_sem, c0, c1, c2]) rfl ⟨rfl, (hx.ret a).2⟩
end Go.Proofs.YtogeijhepjcbgaaGreatDoor
end
