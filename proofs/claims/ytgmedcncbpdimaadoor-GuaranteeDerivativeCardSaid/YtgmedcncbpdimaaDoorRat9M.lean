/- insolvencyref1: Minus, Less, Lesser, Greater: walked. -/
import Derived.Test.YtgmedcncbpdimaaDoorPlusM
import Derived.Test.YtgmedcncbpdimaaDoorQ3M
set_option linter.unusedVariables false
set_option linter.unusedSimpArgs false
/- insolvencyref1: Minus, Less, Lesser, Greater: walked. -/
namespace Go.Proofs.YtgmedcncbpdimaaDoor
open Go.RowKit
attribute [local go_sem ↓] Go.wp_at_zero Go.wp_at_succ

theorem gOpp_enc (q : Rat) : gOpp (enc q) = enc (-q) := enc_opp q
theorem sgnZ_enc (q : Rat) : sgnZ (enc q) = qSgn q := gSgn_enc q
def qmax (a b : Rat) : Rat := if a < b then b else a
theorem qCmp_neg_iff (p q : Rat) : qCmp p q < 0 ↔ p < q := by unfold qCmp; grind

set_option maxRecDepth 100000 in
theorem rMinus_any (p q : Rat) (m n : Nat) (w : World) (hp : qB m p) (hq : qB n q) (hm : m ≤ 100000000000) (hn : n ≤ 100000000000) :
    Calls Tryd.prog 42 #[vRat (enc p), vRat (enc q)] w fun e w' => e = .returned (vRat (enc (p - q))) ∧ Below w.heap.size w w' := by
  have hx0 := (Bx3.new w (enc p) (enc q)).drew
  have hk := hid (fun W (hb : Below _ _ W) => hx0.next hb)
  have O := hid (fun w => rOpposite_any (enc q) w)
  rw [gOpp_enc] at O
  have P := hid (fun w => rPlus_any p (-q) m n w hp hq.neg hm hn)
  rw [← Rat.sub_eq_add_neg] at P
  generalize enc p = a at *
  generalize enc q = b at *
  generalize enc (-q) = c at *
  generalize enc (p - q) = d at *
  unfold vRat
  clear hp hq hx0
  go_enter Tryd.func42, Tryd.ntmps42
  go_wp2_with fail
  go_region_with (first
    | (go_at_call 64; refine Calls.mono (O.out _) ?_; rintro e w1 ⟨rfl, hb1⟩; have hx1 := hk.out _ hb1; obtain ⟨x0, x1, x2, x3, x4⟩ := hx1.1.facts)
    | (go_at_call 43; refine Calls.mono (P.out _) ?_; rintro e w2 ⟨rfl, hb2⟩; unfold vRat; have hx2 := hx1.next hb2; obtain ⟨t0, t1, t2, t3, t4⟩ := hx2.2.2.1.facts))
  all_goals (go_wp2; refine ret_blk3 (hx2.ret _).1 (fun W' c0 c1 c2 => by simp [results, Tryd.results42, go_sem, c0, c1, c2]) rfl ⟨rfl, (hx2.ret _).2⟩)

set_option maxRecDepth 100000 in
theorem rLess_any (p q : Rat) (m n : Nat) (w : World) (hp : qB m p) (hq : qB n q) (hm : m ≤ 100000000000) (hn : n ≤ 100000000000) :
    Calls Tryd.prog 50 #[vRat (enc p), vRat (enc q)] w fun e w' => e = .returned (.bool (decide (p < q))) ∧ Below w.heap.size w w' := by
  have hx0 := hid (Bx2.new w (enc p) (enc q))
  have M := hid (fun w => rMinus_any p q m n w hp hq hm hn)
  have G := hid (fun w => Signum_any (enc (p - q)) w)
  rw [sgnZ_enc, qSgn_sub] at G
  have hd : decide (qCmp p q < 0) = decide (p < q) := decide_eq_decide.2 (qCmp_neg_iff p q)
  generalize enc p = a at *
  generalize enc q = b at *
  generalize enc (p - q) = d at *
  generalize qCmp p q = c at *
  have HD := hid hd
  unfold vRat
  clear hp hq hd
  go_enter Tryd.func50, Tryd.ntmps50
  go_wp2_with fail
  refine Calls.mono (M.out _) ?_
  rintro e w1 ⟨rfl, hb1⟩
  go_wp2_with fail
  refine Calls.mono (G.out _) ?_
  rintro e w2 ⟨rfl, hb2⟩
  go_wp2
  go_ret
  exact ⟨ret_bool HD.out, ((hx0.out.next hb1).next hb2).2.2⟩

set_option maxRecDepth 100000 in
theorem rLesser_any (p q : Rat) (m n : Nat) (w : World) (hp : qB m p) (hq : qB n q) (hm : m ≤ 100000000000) (hn : n ≤ 100000000000) :
    Calls Tryd.prog 45 #[vRat (enc p), vRat (enc q)] w fun e w' => e = .returned (vRat (enc (qmin p q))) ∧ Below w.heap.size w w' := by
  have hx0 := hid (Bx3.new w (enc p) (enc q))
  have L := hid (fun w => rLess_any q p n m w hq hp hn hm)
  by_cases h : q < p
  · rw [show qmin p q = q from if_pos h]
    have hd : decide (q < p) = true := by simp [h]
    rw [hd] at L
    generalize enc p = a at *
    generalize enc q = b at *
    unfold vRat
    clear hp hq hd h
    go_enter Tryd.func45, Tryd.ntmps45
    go_wp2_with fail
    refine Calls.mono (L.out _) ?_
    rintro e w1 ⟨rfl, hb1⟩
    have hx1 := hx0.out.next hb1
    obtain ⟨x0, x1, x2, x3, x4⟩ := hx1.2.1.facts
    obtain ⟨t0, t1, t2, t3, t4⟩ := hx1.2.2.1.facts
    go_wp2
    refine ret_blk3 (hx1.ret _).1 (fun W' c0 c1 c2 => by simp [results, Tryd.results45, go_sem, c0, c1, c2]) rfl ⟨rfl, (hx1.ret _).2⟩
  · rw [show qmin p q = p from if_neg h]
    have hd : decide (q < p) = false := by simp [h]
    rw [hd] at L
    generalize enc p = a at *
    generalize enc q = b at *
    unfold vRat
    clear hp hq hd h
    go_enter Tryd.func45, Tryd.ntmps45
    go_wp2_with fail
    refine Calls.mono (L.out _) ?_
    rintro e w1 ⟨rfl, hb1⟩
    have hx1 := hx0.out.next hb1
    obtain ⟨x0, x1, x2, x3, x4⟩ := hx1.1.facts
    obtain ⟨t0, t1, t2, t3, t4⟩ := hx1.2.2.1.facts
    go_wp2
    refine ret_blk3 (hx1.ret _).1 (fun W' c0 c1 c2 => by simp [results, Tryd.results45, go_sem, c0, c1, c2]) rfl ⟨rfl, (hx1.ret _).2⟩

set_option maxRecDepth 100000 in
theorem rGreater_any (p q : Rat) (m n : Nat) (w : World) (hp : qB m p) (hq : qB n q) (hm : m ≤ 100000000000) (hn : n ≤ 100000000000) :
    Calls Tryd.prog 86 #[vRat (enc p), vRat (enc q)] w fun e w' => e = .returned (vRat (enc (qmax p q))) ∧ Below w.heap.size w w' := by
  have hx0 := hid (Bx3.new w (enc p) (enc q))
  have L := hid (fun w => rLess_any p q m n w hp hq hm hn)
  by_cases h : p < q
  · rw [show qmax p q = q from if_pos h]
    have hd : decide (p < q) = true := by simp [h]
    rw [hd] at L
    generalize enc p = a at *
    generalize enc q = b at *
    unfold vRat
    clear hp hq hd h
    go_enter Tryd.func86, Tryd.ntmps86
    go_wp2_with fail
    refine Calls.mono (L.out _) ?_
    rintro e w1 ⟨rfl, hb1⟩
    have hx1 := hx0.out.next hb1
    obtain ⟨x0, x1, x2, x3, x4⟩ := hx1.2.1.facts
    obtain ⟨t0, t1, t2, t3, t4⟩ := hx1.2.2.1.facts
    go_wp2
    refine ret_blk3 (hx1.ret _).1 (fun W' c0 c1 c2 => by simp [results, Tryd.results86, go_sem, c0, c1, c2]) rfl ⟨rfl, (hx1.ret _).2⟩
  · rw [show qmax p q = p from if_neg h]
    have hd : decide (p < q) = false := by simp [h]
    rw [hd] at L
    generalize enc p = a at *
    generalize enc q = b at *
    unfold vRat
    clear hp hq hd h
    go_enter Tryd.func86, Tryd.ntmps86
    go_wp2_with fail
    refine Calls.mono (L.out _) ?_
    rintro e w1 ⟨rfl, hb1⟩
    have hx1 := hx0.out.next hb1
    obtain ⟨x0, x1, x2, x3, x4⟩ := hx1.1.facts
    obtain ⟨t0, t1, t2, t3, t4⟩ := hx1.2.2.1.facts
    go_wp2
    refine ret_blk3 (hx1.ret _).1 (fun W' c0 c1 c2 => by simp [results, Tryd.results86, go_sem, c0, c1, c2]) rfl ⟨rfl, (hx1.ret _).2⟩

end Go.Proofs.YtgmedcncbpdimaaDoor
