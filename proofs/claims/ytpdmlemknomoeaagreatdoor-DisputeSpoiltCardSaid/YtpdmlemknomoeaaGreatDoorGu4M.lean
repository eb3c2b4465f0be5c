/- guarantee.Refunds: walked. -/
import Derived.Test.YtpdmlemknomoeaaGreatDoorPl3M
import Derived.Deep.DeepCutAuto
import Derived.Deep.RegionHeld3
import Derived.Test.YtpdmlemknomoeaaGreatDoorRw6M
import Derived.Test.YtpdmlemknomoeaaGreatDoorLawM
import Derived.Test.YtpdmlemknomoeaaGreatDoorBl6M
import Derived.Test.YtpdmlemknomoeaaGreatDoorOw4M
import Derived.Test.YtpdmlemknomoeaaGreatDoorDi1M
import Derived.Test.YtpdmlemknomoeaaGreatDoorSplM
set_option linter.unusedVariables false
set_option linter.unusedSimpArgs false
set_option linter.defProp false
set_option linter.unnecessarySimpa false
set_option linter.unusedSectionVars false
section
/- guarantee.Refunds: walked. -/
namespace Go.Proofs.YtpdmlemknomoeaaGreatDoor
open Go.RowKit
attribute [local go_sem ↓] Go.wp_at_zero Go.wp_at_succ
def RSt (w wr : World) (W : GRat) (n : Nat) (rs : List GRat) (s o : GRat) : Prop :=
  Bx wr w.heap.size W ∧ OwnR wr (w.heap.size + 1) n rs ∧ Bx wr (w.heap.size + 1 + 1) s ∧ Bx wr (w.heap.size + 1 + 1 + 1) o ∧ Below w.heap.size w wr
section
variable {w wr : World} {W : GRat} {n : Nat} {rs : List GRat} {s o : GRat}
theorem RSt.next {w' : World} (h : RSt w wr W n rs s o) (hb : Below wr.heap.size wr w') : RSt w w' W n rs s o := ⟨h.1.below hb, h.2.1.below hb, h.2.2.1.below hb, h.2.2.2.1.below hb, h.2.2.2.2.step hb⟩
theorem RSt.drew (h : RSt w wr W n rs s o) : RSt w wr.drew W n rs s o := ⟨h.1.drew, h.2.1.drew, h.2.2.1.drew, h.2.2.2.1.drew, Below.drew h.2.2.2.2⟩
theorem RSt.alloc (h : RSt w wr W n rs s o) (b : Obj) : RSt w (wr.alloc b) W n rs s o := h.next ((Below.refl _ _).alloc (Nat.le_refl _) _)
theorem RSt.putO (h : RSt w wr W n rs s o) (a : GRat) : RSt w (put3 wr (w.heap.size + 1 + 1 + 1) a) W n rs s a :=
  ⟨h.1.other (by omega) a, h.2.1.other (by omega) a, h.2.2.1.other (by omega) a, h.2.2.2.1.put a, below_put h.2.2.2.2 (by omega) a⟩
theorem RSt.lt (h : RSt w wr W n rs s o) : w.heap.size + 1 + 1 + 1 < wr.heap.size := Blk3.lt h.2.2.2.1
end
end Go.Proofs.YtpdmlemknomoeaaGreatDoor
end
section
/- insolvencylaw18.awake: walked. -/
namespace Go.Proofs.YtpdmlemknomoeaaGreatDoor
open Go.RowKit
attribute [local go_sem ↓] Go.wp_at_zero Go.wp_at_succ
theorem RL.get {w : World} {v : Value} {l : List GRat} (h : RL w v l) {k : Nat} (hk : k < l.length) :
    ∃ b off cap, v = .slice (some ⟨b, off, none⟩) l.length cap ∧ b < w.heap.size ∧ l.length ≤ 9223372036854775807 ∧ ∀ j (h : j < l.length), w.cell? ⟨b, off + j * 3, none⟩ = some (.bool l[j].neg) ∧ w.cell? ⟨b, off + j * 3 + 1, none⟩ = some (.string l[j].num) ∧ w.cell? ⟨b, off + j * 3 + 2, none⟩ = some (.string l[j].den) ∧ sB maxLen l[j] := by
  obtain ⟨a, cap, rfl, h1, h2⟩ := h.open
  rcases h2 with h2 | ⟨b, off, rfl, hb, h3⟩
  · rw [h2] at hk; simp at hk
  exact ⟨b, off, cap, rfl, hb, h1, h3⟩
def AwS (w5 : World) (b off : Nat) (q0 q20 : GRat) (w' : World) : Prop := Below w5.heap.size w5 w' ∧ w'.cell? ⟨b, off, none⟩ = some (.bool q0.neg) ∧ w'.cell? ⟨b, off + 1, none⟩ = some (.string q0.num) ∧ w'.cell? ⟨b, off + 2, none⟩ = some (.string q0.den) ∧ w'.cell? ⟨b, off + 3, none⟩ = some (.bool q20.neg) ∧ w'.cell? ⟨b, off + 3 + 1, none⟩ = some (.string q20.num) ∧ w'.cell? ⟨b, off + 3 + 2, none⟩ = some (.string q20.den) ∧ w'.cell? ⟨b, off + 6, none⟩ = some (.bool q20.neg) ∧ w'.cell? ⟨b, off + 6 + 1, none⟩ = some (.string q20.num) ∧ w'.cell? ⟨b, off + 6 + 2, none⟩ = some (.string q20.den)
theorem AwS.drew {w5 W : World} {b off : Nat} {q0 q20 : GRat} (h : AwS w5 b off q0 q20 W) : AwS w5 b off q0 q20 W.drew := ⟨Below.drew h.1, h.2⟩
theorem AwS.next {w5 W V : World} {b off : Nat} {q0 q20 : GRat} (h : AwS w5 b off q0 q20 W) (hb : b < w5.heap.size) (hV : Below W.heap.size W V) : AwS w5 b off q0 q20 V := by
  have hc : ∀ o, V.cell? ⟨b, o, none⟩ = W.cell? ⟨b, o, none⟩ := fun o => hV.cell (p := ⟨b, o, none⟩) (Nat.lt_of_lt_of_le hb h.1.size)
  obtain ⟨h0, h⟩ := h
  refine ⟨h0.step hV, ?_⟩
  simp only [hc]
  exact h
end Go.Proofs.YtpdmlemknomoeaaGreatDoor
end
section
/- GuaranteeCheck: the law's own function; walked by the abstract machine. -/
namespace Go.Proofs.YtpdmlemknomoeaaGreatDoor
open Go Go.RowKit
theorem acall_law {P : Program} {f : FuncId} {args : List A1} {vs : List Value} {w : World} (h : ACall P f args (one (.bool true))) (hd : den1s (kAll w) vs args) :
    Calls P f vs.toArray w fun e w' => e = .returned (.bool true) ∧ Below w.heap.size w w' :=
  (h.2 w (LT w.heap.size) vs (fun _ h => h) hd).mono fun e w' ⟨v, he, hb, hv⟩ => by
    have : v = .bool true := hv.1
    subst this
    exact ⟨he, hb⟩
theorem den_oneC {α : Type} {enc : α → List C} {ok : α → Prop} {W : World} {v : Value} {a : α} {c : C} (o : rC enc ok W (LT W.heap.size) [v] a) (he : enc a = [c]) : den1 (kAll W) v (.one c) ∧ ok a := by
  obtain ⟨h, k⟩ := o
  rw [he] at h
  exact ⟨h.1, k⟩
end Go.Proofs.YtpdmlemknomoeaaGreatDoor
end
section
/- Classes as arguments of a law, opened; ClassSum's own function. -/
namespace Go.Proofs.YtpdmlemknomoeaaGreatDoor
open Go Go.RowKit Go.ChangeShapes Go.WideShapes Go.ChangeAt
end Go.Proofs.YtpdmlemknomoeaaGreatDoor
end
section
/- A box that is read from here on; contracts at arguments that say less; groups whose ranks were changed. -/
namespace Go.Proofs.YtpdmlemknomoeaaGreatDoor
open Go Go.RowKit
section
variable {P : Program} {e : En} {k0 : Kx} {N : Nat} {st : St} {a : Act} {w : World} {Q : Exit → St → Prop} {c : Code}
end
end Go.Proofs.YtpdmlemknomoeaaGreatDoor
end
section
/- The builder of disputes: the list a row of the caller's own, and the options of one chosen dispute too; walked by the abstract machine. -/
namespace Go.Proofs.YtpdmlemknomoeaaGreatDoor
open Go Go.RowKit
def opK (kk : Nat) (l : List GDisp) : List GOpt := (l.map (·.opts)).getD kk []
def cellsK (kk so : Nat) (l : List GDisp) : List C := if kk < l.length then spl (flat cDisp l) (kk * 3 + 2) [.own 3066 so (opK kk l).length 4] else flat cDisp l
def exK (kk so : Nat) (H : Hp) (l : List GDisp) : Hp := if kk < l.length then up H 3066 (some ⟨so, 40, 4, (opK kk l).length, flat cOpt (opK kk l)⟩) else H
def okD (d : GDisp) : Prop := 1 ≤ d.opts.length ∧ d.opts.length ≤ 3 ∧ ∀ y ∈ d.opts, opG y
theorem spE_len : ∀ (l : List GEst) (i : Nat) (out : List Leg), (∀ e ∈ l, e.claims.length ≤ 1000000) → (spE l i out).length ≤ out.length + 1000000 * l.length
  | [], _, _, _ => by simp [spE]
  | e :: l, i, out, h => by
    have h1 := spE_len l (i + 1) (spC i out e.claims.length) fun x hx => h x (List.mem_cons_of_mem _ hx)
    have h2 := h e (by simp)
    rw [spC_len] at h1
    simp only [spE, List.length_cons]
    omega
theorem opK_old {kk : Nat} {l : List GDisp} (d : GDisp) (h : kk < l.length) : opK kk (l ++ [d]) = opK kk l := by
  simp only [opK, List.getD_eq_getElem?_getD, List.map_append]
  rw [List.getElem?_append_left (by simpa using h)]
theorem opK_new {kk : Nat} {l : List GDisp} (d : GDisp) (h : l.length = kk) : opK kk (l ++ [d]) = d.opts := by
  simp [opK, List.getD_eq_getElem?_getD, ← h]
theorem spl_one_append (cs ds : List C) (i : Nat) (x : C) (h : i < cs.length) : spl (cs ++ ds) i [x] = spl cs i [x] ++ ds := by
  simp only [spl, List.length_singleton, List.append_assoc]
  rw [List.take_append_of_le_length (by omega), List.drop_append_of_le_length (by omega)]
theorem cK_len (kk so : Nat) (l : List GDisp) : (cellsK kk so l).length = l.length * 3 := by
  have h1 := flat_length cDisp_len l
  unfold cellsK
  split
  · rw [spl_len1 _ _ _ (by omega), h1]
  exact h1
theorem cK_nil (kk so : Nat) : cellsK kk so [] = [] := by simp [cellsK, flat_nil]
theorem exK_nil (kk so : Nat) (H : Hp) : exK kk so H [] = H := by simp [exK]
theorem cK_old {kk : Nat} (so : Nat) {l : List GDisp} (d : GDisp) (h : ¬ l.length = kk) : cellsK kk so (l ++ [d]) = cellsK kk so l ++ [.lit (.int .i64 d.est), .lit (.int .i64 d.cl), .sh 4 d.opts.length (flat cOpt d.opts)] := by
  have h1 := flat_length cDisp_len l
  unfold cellsK
  by_cases hk : kk < l.length
  · rw [if_pos hk, if_pos (by simp; omega), opK_old d hk, flat_snoc, spl_one_append _ _ _ _ (by omega)]; rfl
  rw [if_neg hk, if_neg (by simp; omega), flat_snoc]; rfl
theorem cK_new {kk : Nat} (so0 so : Nat) {l : List GDisp} (d : GDisp) (h : l.length = kk) : cellsK kk so (l ++ [d]) = cellsK kk so0 l ++ [.lit (.int .i64 d.est), .lit (.int .i64 d.cl), .own 3066 so d.opts.length 4] := by
  have h1 := flat_length cDisp_len l
  unfold cellsK
  rw [if_pos (show kk < (l ++ [d]).length by simp; omega), if_neg (show ¬ kk < l.length by omega), opK_new d h, flat_snoc]
  simp only [spl, cDisp, List.length_singleton]
  rw [List.take_append, List.drop_append, List.take_of_length_le (by omega), List.drop_eq_nil_of_le (by omega)]
  have h2 : kk * 3 + 2 - (flat cDisp l).length = 2 := by omega
  have h3 : kk * 3 + 2 + 1 - (flat cDisp l).length = 3 := by omega
  rw [h2, h3]
  simp
theorem exK_old {kk : Nat} (so : Nat) (H : Hp) {l : List GDisp} (d : GDisp) (h : ¬ l.length = kk) : exK kk so H (l ++ [d]) = exK kk so H l := by
  unfold exK
  by_cases hk : kk < l.length
  · rw [if_pos hk, if_pos (by simp; omega), opK_old d hk]
  rw [if_neg hk, if_neg (by simp; omega)]
theorem exK_new {kk : Nat} (so : Nat) (H : Hp) {l : List GDisp} (d : GDisp) (h : l.length = kk) : exK kk so H (l ++ [d]) = up H 3066 (some ⟨so, 40, 4, d.opts.length, flat cOpt d.opts⟩) := by
  unfold exK
  rw [if_pos (by simp; omega), opK_new d h]
theorem exK_at {kk : Nat} (so : Nat) (H : Hp) {l : List GDisp} (h : l.length = kk) : exK kk so H l = H := by
  unfold exK
  rw [if_neg (by omega)]
theorem exK_lt {kk so : Nat} {H : Hp} {l : List GDisp} (hb : ∀ y B, H y = some B → y < 1000) {y : Nat} {B : Blk} (h : exK kk so H l y = some B) : y < 1000 ∨ y = 3066 := by
  unfold exK at h
  split at h
  · simp only [up_apply] at h
    split at h
    · exact .inr (by omega)
    exact .inl (hb y B h)
  exact .inl (hb y B h)
def F_lDp := And.intro zS (And.intro tf84 (And.intro tf86 (And.intro tf25 (And.intro tf89 (And.intro tf70 (And.intro tf26 (And.intro tf92 (And.intro tf30 (And.intro tf31 (And.intro tf75 (And.intro tf93 (And.intro tf104 (And.intro tf4 (And.intro tf79 (And.intro tf99 (And.intro tf72 (tf34)))))))))))))))))
set_option maxRecDepth 100000 in
set_option maxHeartbeats 4000000 in
theorem disputes_I (g : GGrp) (list : List N4) (m kk : Nat) (H : Hp) (ny : Nat) (hng : g.ests.length ≤ 1000000) (hcl : ∀ e ∈ g.ests, e.claims.length ≤ 1000000) (hln : list.length ≤ 9223372036854775807) (hls : ∀ x ∈ list, okN4 x) (hm : m ≤ 1000) (hbH : ∀ y B, H y = some B → y < 1000) :
  ACallI Tryz.prog 10 [.agg (cGrp g), .one (.sh 4 list.length (flat cN4 list)), .one (.lit (.int .i64 m))] H ny
   (fun res H' _ => ∃ l all s so, l.length = min (min list.length m) (spE g.ests 0 []).length ∧ (l.map dLeg ++ all).Perm (spE g.ests 0 []) ∧ (∀ d ∈ l, okD d) ∧ res = .val (.one (.own 1044 s l.length 3)) ∧ H' = mkOn (exK kk so H l) [(1044, ⟨s, 36, 3, l.length, cellsK kk so l⟩)]) := by
 refine acallI_of 1000 Tryz.func10 rfl (by decide) (N := 56) rfl (by simp) (Rl := [.tmp 6]) rfl fun en k0 => ?_
 refine awR [] [none, none] ?_
 simp only [(id F_lDp), seval, cGrp]
 repeat refine ob ?_
 refine awR [] [none] ?_
 simp only [(id F_lDp), seval, cGrp]
 repeat refine ob ?_
 have hSp := spots_A g hng hcl
 have hsl9 := spE_len g.ests 0 [] hcl
 rw [List.length_nil] at hsl9
 refine awR [] [none, none, none] ?_
 simp only [(id F_lDp), seval, cGrp, cGrp, flat_pure cEst_pure, flat_pure cDebt_pure]
 repeat refine ob ?_
 refine ⟨_, hSp, (by first | rfl | simp [allA, pure1, pureCs, pureC, A1.cells, cGrp, flat_pure cEst_pure, flat_pure cDebt_pure, flat_pure cLeg_pure]), ?_⟩
 try unfold Later
 try simp only [(id F_lDp), seval, cGrp, cGrp, flat_pure cEst_pure, flat_pure cDebt_pure]
 repeat refine ob ?_
 refine awR [] [none, none, none] ?_
 simp only [(id F_lDp), seval, cGrp]
 repeat refine ob ?_
 refine awp_nil 7 1044 36 3 (by decide) (by rfl) ?_
 refine awp_on (exK kk 0 H []) [2, 7, 8, 14, 15, 16] [1044] (by intro y B h; right; rw [exK_nil] at h; have h9 := hbH y B h; simp only [up_apply]; (repeat rw [if_neg (by omega)]); exact h) ?_
 try unfold Later
 try simp only [(id F_lDp), seval, cGrp, exK_nil]
 repeat' first|apply awS|apply awB
 refine awp_loopw (fun n st => ∃ j out all s so nx, j ≤ list.length ∧ n = list.length - j ∧ out.length = j ∧ j ≤ m ∧ (out.map dLeg ++ all).Perm (spE g.ests 0 []) ∧ (∀ d ∈ out, okD d) ∧ st = ⟨mkT [(2, one (.int .i64 m)), (7, .val (.one (.own 1044 s out.length 3))), (8, .val (.one (.sh 2 all.length (flat cLeg all)))), (14, .val (.one (.sh 4 list.length (flat cN4 list)))), (15, one (.int .i64 list.length)), (16, one (.int .i64 j))], mkOn (exK kk so H out) [(1044, ⟨s, 36, 3, out.length, cellsK kk so out⟩)], nx, 1000⟩) (list.length) ⟨0, [], spE g.ests 0 [], _, 0, _, by omega, by omega, rfl, by omega, by simp, by simp, by simp only [cK_nil, exK_nil]; rfl⟩ ?_
 rintro n0 st ⟨j, out, all, s, so, nx0, hj0, rfl, hoj, hjm, hperm, hok, rfl⟩
 by_cases hlt0 : (j : Int) < (list.length : Int)
 ·
  have hj : j < list.length := by omega
  have hat0 := flat_at cN4_len list j hj
  obtain ⟨x, hxj⟩ : ∃ x, list[j] = x := ⟨_, rfl⟩
  have hx : okN4 x := hxj ▸ hls _ (List.getElem_mem hj)
  rw [hxj] at hat0
  have hxa : x.a < 65536 := hx.1
  refine awR [] [none] ?_
  simp only [(id F_lDp), seval, cGrp, hlt0, hat0]
  repeat refine ob ?_
  refine awT ?_
  refine awK ?_
  simp only [(id F_lDp), seval]
  refine awR [] [none, none, none, none] ?_
  simp only [(id F_lDp), seval, cGrp, hlt0, hat0, cN4]
  repeat refine ob ?_
  by_cases h1 : (m : Int) ≤ (out.length : Int)
  ·
   refine awR [] [none, none, none, none, none, some (24, false), some (24, false), some (24, false), none] ?_
   simp only [(id F_lDp), seval, cGrp, hlt0, hat0, h1]
   repeat refine ob ?_
   refine awT ?_
   refine awQ ?_
   simp only [(id F_lDp), seval]
   refine awR [] [none, none] ?_
   simp only [(id F_lDp), seval, cGrp, hlt0, hat0, h1]
   repeat refine ob ?_
   refine awp_on (exK kk so H out) [6] [1044] (by intro y B h; right; have h9 := exK_lt hbH h; simp only [up_apply]; (repeat rw [if_neg (by omega)]); exact h) ?_
   simp only [(id F_lDp), seval]
   refine awX ?_
   simp only [(id F_lDp), seval]
   have hpl := hperm.length_eq
   rw [List.length_append, List.length_map] at hpl
   exact ⟨out, all, s, so, by omega, hperm, hok, rfl, rfl⟩
  by_cases h2 : (all.length : Int) = 0
  ·
   refine awR [] [none, none, none, none, none, some (24, false), some (24, false), some (24, false), none] ?_
   simp only [(id F_lDp), seval, cGrp, hlt0, hat0, h1, h2]
   repeat refine ob ?_
   refine awT ?_
   refine awQ ?_
   simp only [(id F_lDp), seval]
   refine awR [] [none, none] ?_
   simp only [(id F_lDp), seval, cGrp, hlt0, hat0, h1, h2]
   repeat refine ob ?_
   refine awp_on (exK kk so H out) [6] [1044] (by intro y B h; right; have h9 := exK_lt hbH h; simp only [up_apply]; (repeat rw [if_neg (by omega)]); exact h) ?_
   simp only [(id F_lDp), seval]
   refine awX ?_
   simp only [(id F_lDp), seval]
   have hpl := hperm.length_eq
   rw [List.length_append, List.length_map] at hpl
   exact ⟨out, all, s, so, by omega, hperm, hok, rfl, rfl⟩
  refine awR [] [none, none, none, none, none, some (24, false), some (24, false), some (24, false), none] ?_
  simp only [(id F_lDp), seval, cGrp, hlt0, hat0, h1, h2]
  repeat refine ob ?_
  refine awF ?_
  refine awK ?_
  simp only [(id F_lDp), seval]
  have hpl := hperm.length_eq
  rw [List.length_append, List.length_map] at hpl
  have w1 := tmodN x.a all.length
  have hkl : x.a % all.length < all.length := Nat.mod_lt _ (by omega)
  obtain ⟨k, hk⟩ : ∃ k, k = x.a % all.length := ⟨_, rfl⟩
  rw [← hk] at w1 hkl
  refine awR [] [none, none, none, none, none, none, none] ?_
  simp only [(id F_lDp), seval, cGrp, hlt0, hat0, h1, h2, cN4, w1]
  repeat refine ob ?_
  by_cases hkk : out.length = kk
  ·
   have hEH : exK kk so H out = H := exK_at so H hkk
   obtain ⟨p, hpk⟩ : ∃ p, all[k] = p := ⟨_, rfl⟩
   have hatl := flat_at cLeg_len all k hkl
   rw [hpk] at hatl
   have hlen1 := cK_len kk so out
   have hal : (flat cLeg all).length = all.length * 2 := flat_length cLeg_len all
   repeat' first|apply awS|apply awB
   refine awp_drawsI [41] (by kernel_rfl) (.cons 0 true (.cons 1 true (.cons 2 true (.cons 3 true (.cons 5 true (.two 4 6 (.cons 6 false (.cons 7 true (.cons 8 false (.cons 9 false (.cons 10 true .nil))))) (.cons 4 true (.cons 7 true (.cons 8 false (.cons 9 false (.cons 10 true .nil))))))))))) (by kernel_rfl) (gs := [none, none, none, none, none, none, none, none, none, none, none]) (by kernel_rfl) (by simp only [(id zS), seval]; rfl) (by decide) ?_
   simp only [(id F_lDp), seval, cGrp, hlt0, hat0, h1, h2, hatl, cLeg, cN4, (id SD)]
   repeat refine ob ?_
   refine ⟨?_, ?_⟩
   ·
    repeat refine ob ?_
    rw [hEH]
    refine ⟨_, opts_I3 x hx _ _ (fun y B hB => ?_), ?_⟩
    ·
     simp only [up_apply] at hB
     repeat (split at hB; · omega)
     have := hbH y B hB; omega
    rintro res H' nx' ⟨l, so1, hl1, hl3, hlg, rfl, rfl⟩
    simp only [(id F_lDp), seval, (id SD), hatl, cLeg, cN4]
    repeat refine ob ?_
    have hk1 : ((k : Int) + 1).toNat = k + 1 := by omega
    have hft := flat_take cLeg_len all k
    have hfd := flat_drop cLeg_len all (k + 1)
    have hfk : List.take ((all.length - (k + 1)) * 2) (flat cLeg (all.drop (k + 1))) = flat cLeg (all.drop (k + 1)) := List.take_of_length_le (by rw [flat_length cLeg_len, List.length_drop]; omega)
    refine awD (scq [1, 3, 5, 9, 11, 13, 15, 6, 16, 19] .nil) [none, none, none, none, none, none, none, none, none, none] ?_
    simp only [(id F_lDp), seval, cGrp, hlt0, hat0, h1, h2, hk1, hft, hfd, hfk, Nat.sub_zero]
    repeat refine ob ?_
    refine awp_pub (t := 8) (by rfl) (by rfl) (by decide) (by rfl) ?_
    simp only [(id F_lDp), seval]
    have hl8 : k + (all.length - (k + 1)) = (all.take k ++ all.drop (k + 1)).length := by simp; omega
    rw [show flat cLeg (all.take k) ++ flat cLeg (all.drop (k + 1)) = flat cLeg (all.take k ++ all.drop (k + 1)) by rw [flat_append]]
    rw [hl8]
    obtain ⟨al2, hal2⟩ : ∃ a, a = all.take k ++ all.drop (k + 1) := ⟨_, rfl⟩
    rw [← hal2]
    refine awR [] [none, none] ?_
    simp only [(id F_lDp), seval, cGrp, hlt0, hat0, h1, h2]
    repeat refine ob ?_
    repeat refine ob ?_
    have hperm2 : ((out ++ [(⟨p.1, p.2, l⟩ : GDisp)]).map dLeg ++ al2).Perm (spE g.ests 0 []) := by
     rw [hal2]
     refine List.Perm.trans ?_ hperm
     rw [List.map_append, List.append_assoc]
     refine List.Perm.append_left _ ?_
     have h1 : all = all.take k ++ (p :: all.drop (k + 1)) := by rw [← hpk, ← List.drop_eq_getElem_cons hkl, List.take_append_drop]
     show (p :: (all.take k ++ all.drop (k + 1))).Perm all
     conv => rhs; rw [h1]
     exact List.perm_middle.symm
    have hokd : ∀ d ∈ (out ++ [(⟨p.1, p.2, l⟩ : GDisp)]), okD d := by
     intro d hd
     rcases List.mem_append.1 hd with h | h
     ·
      exact hok d h
     obtain rfl := List.mem_singleton.1 h
     exact ⟨hl1, hl3, hlg⟩
    have hcn := cK_new so so1 (⟨p.1, p.2, l⟩ : GDisp) hkk
    refine ⟨_, wk_on (exK kk so1 H (out ++ [(⟨p.1, p.2, l⟩ : GDisp)])) [2, 7, 8, 14, 15, 16] [1044] ?pf18, list.length - (j + 1), by omega, j + 1, (out ++ [(⟨p.1, p.2, l⟩ : GDisp)]), al2, ?ss18, so1, ?na18, by omega, rfl, by simp; omega, by omega, hperm2, hokd, ?st18⟩
    case pf18 =>
     intro y B h
     right
     rw [exK_new _ _ _ hkk] at h
     simp only [up_apply] at h ⊢
     by_cases h8 : y = 3066
     ·
      subst h8
      simpa using h
     rw [if_neg h8] at h
     have h9 := hbH y B h
     repeat rw [if_neg (by omega)]
     exact h
    case st18 => (simp only [(id F_lDp), seval, hcn, List.length_append, List.length_cons, List.length_nil]; first | rfl | (simp; done))
   repeat refine ob ?_
   rw [hEH]
   refine ⟨_, opts_I3 x hx _ _ (fun y B hB => ?_), ?_⟩
   ·
    simp only [up_apply] at hB
    repeat (split at hB; · omega)
    have := hbH y B hB; omega
   rintro res H' nx' ⟨l, so1, hl1, hl3, hlg, rfl, rfl⟩
   simp only [(id F_lDp), seval, (id SD), hatl, cLeg, cN4]
   repeat refine ob ?_
   have hk1 : ((k : Int) + 1).toNat = k + 1 := by omega
   have hft := flat_take cLeg_len all k
   have hfd := flat_drop cLeg_len all (k + 1)
   have hfk : List.take ((all.length - (k + 1)) * 2) (flat cLeg (all.drop (k + 1))) = flat cLeg (all.drop (k + 1)) := List.take_of_length_le (by rw [flat_length cLeg_len, List.length_drop]; omega)
   refine awD (scq [1, 3, 5, 9, 11, 13, 15, 6, 16, 19] .nil) [none, none, none, none, none, none, none, none, none, none] ?_
   simp only [(id F_lDp), seval, cGrp, hlt0, hat0, h1, h2, hk1, hft, hfd, hfk, Nat.sub_zero]
   repeat refine ob ?_
   refine awp_pub (t := 8) (by rfl) (by rfl) (by decide) (by rfl) ?_
   simp only [(id F_lDp), seval]
   have hl8 : k + (all.length - (k + 1)) = (all.take k ++ all.drop (k + 1)).length := by simp; omega
   rw [show flat cLeg (all.take k) ++ flat cLeg (all.drop (k + 1)) = flat cLeg (all.take k ++ all.drop (k + 1)) by rw [flat_append]]
   rw [hl8]
   obtain ⟨al2, hal2⟩ : ∃ a, a = all.take k ++ all.drop (k + 1) := ⟨_, rfl⟩
   rw [← hal2]
   refine awR [] [none, none] ?_
   simp only [(id F_lDp), seval, cGrp, hlt0, hat0, h1, h2]
   repeat refine ob ?_
   repeat refine ob ?_
   have hperm2 : ((out ++ [(⟨p.1, p.2, l⟩ : GDisp)]).map dLeg ++ al2).Perm (spE g.ests 0 []) := by
    rw [hal2]
    refine List.Perm.trans ?_ hperm
    rw [List.map_append, List.append_assoc]
    refine List.Perm.append_left _ ?_
    have h1 : all = all.take k ++ (p :: all.drop (k + 1)) := by rw [← hpk, ← List.drop_eq_getElem_cons hkl, List.take_append_drop]
    show (p :: (all.take k ++ all.drop (k + 1))).Perm all
    conv => rhs; rw [h1]
    exact List.perm_middle.symm
   have hokd : ∀ d ∈ (out ++ [(⟨p.1, p.2, l⟩ : GDisp)]), okD d := by
    intro d hd
    rcases List.mem_append.1 hd with h | h
    ·
     exact hok d h
    obtain rfl := List.mem_singleton.1 h
    exact ⟨hl1, hl3, hlg⟩
   have hcn := cK_new so so1 (⟨p.1, p.2, l⟩ : GDisp) hkk
   refine ⟨_, wk_on (exK kk so1 H (out ++ [(⟨p.1, p.2, l⟩ : GDisp)])) [2, 7, 8, 14, 15, 16] [1044] ?pf21, list.length - (j + 1), by omega, j + 1, (out ++ [(⟨p.1, p.2, l⟩ : GDisp)]), al2, ?ss21, so1, ?na21, by omega, rfl, by simp; omega, by omega, hperm2, hokd, ?st21⟩
   case pf21 =>
    intro y B h
    right
    rw [exK_new _ _ _ hkk] at h
    simp only [up_apply] at h ⊢
    by_cases h8 : y = 3066
    ·
     subst h8
     simpa using h
    rw [if_neg h8] at h
    have h9 := hbH y B h
    repeat rw [if_neg (by omega)]
    exact h
   case st21 => (simp only [(id F_lDp), seval, hcn, List.length_append, List.length_cons, List.length_nil]; first | rfl | (simp; done))
  obtain ⟨p, hpk⟩ : ∃ p, all[k] = p := ⟨_, rfl⟩
  have hatl := flat_at cLeg_len all k hkl
  rw [hpk] at hatl
  have hlen1 := cK_len kk so out
  have hal : (flat cLeg all).length = all.length * 2 := flat_length cLeg_len all
  repeat' first|apply awS|apply awB
  refine awp_drawsI [41] (by kernel_rfl) (.cons 0 true (.cons 1 true (.cons 2 true (.cons 3 true (.cons 5 true (.two 4 6 (.cons 6 false (.cons 7 true (.cons 8 false (.cons 9 false (.cons 10 true .nil))))) (.cons 4 true (.cons 7 true (.cons 8 false (.cons 9 false (.cons 10 true .nil))))))))))) (by kernel_rfl) (gs := [none, none, none, none, none, none, none, none, none, none, none]) (by kernel_rfl) (by simp only [(id zS), seval]; rfl) (by decide) ?_
  simp only [(id F_lDp), seval, cGrp, hlt0, hat0, h1, h2, hatl, cLeg, cN4, (id SD)]
  repeat refine ob ?_
  refine ⟨?_, ?_⟩
  ·
   repeat refine ob ?_
   refine ⟨_, opts_I2 x hx _ _ (fun y B hB => ?_), ?_⟩
   ·
    simp only [up_apply] at hB
    repeat (split at hB; · omega)
    have := exK_lt hbH hB; omega
   rintro res H' nx' ⟨l, so1, hl1, hl3, hlg, rfl, rfl⟩
   simp only [(id F_lDp), seval, (id SD), hatl, cLeg, cN4]
   repeat refine ob ?_
   refine awp_pubc 2066 1044 (out.length * 3 + 2) (by rfl) (by rfl) (by (try simp only [(id F_lDp), seval]); rw [List.getElem?_append_right (by rw [cK_len]; omega), cK_len, Nat.add_sub_cancel_left]; rfl) (by decide) (by show (4 : Nat) ≠ 0; decide) (by show (3 : Nat) ≠ 0; decide) rfl ?_
   have hst9 : ∀ q9 : List C, q9.length = 3 → ∀ y, (cellsK kk so out ++ q9).set (out.length * 3 + 2) y = cellsK kk so out ++ q9.set 2 y := fun q9 h9 y => by rw [List.set_append_right _ _ (by rw [cK_len]; omega), cK_len, Nat.add_sub_cancel_left]
   simp only [(id F_lDp), seval]
   rw [hst9 _ (by rfl)]
   simp only [(id F_lDp), seval, List.set_cons_succ, List.set_cons_zero]
   have hk1 : ((k : Int) + 1).toNat = k + 1 := by omega
   have hft := flat_take cLeg_len all k
   have hfd := flat_drop cLeg_len all (k + 1)
   have hfk : List.take ((all.length - (k + 1)) * 2) (flat cLeg (all.drop (k + 1))) = flat cLeg (all.drop (k + 1)) := List.take_of_length_le (by rw [flat_length cLeg_len, List.length_drop]; omega)
   refine awD (scq [1, 3, 5, 9, 11, 13, 15, 6, 16, 19] .nil) [none, none, none, none, none, none, none, none, none, none] ?_
   simp only [(id F_lDp), seval, cGrp, hlt0, hat0, h1, h2, hk1, hft, hfd, hfk, Nat.sub_zero]
   repeat refine ob ?_
   refine awp_pub (t := 8) (by rfl) (by rfl) (by decide) (by rfl) ?_
   simp only [(id F_lDp), seval]
   have hl8 : k + (all.length - (k + 1)) = (all.take k ++ all.drop (k + 1)).length := by simp; omega
   rw [show flat cLeg (all.take k) ++ flat cLeg (all.drop (k + 1)) = flat cLeg (all.take k ++ all.drop (k + 1)) by rw [flat_append]]
   rw [hl8]
   obtain ⟨al2, hal2⟩ : ∃ a, a = all.take k ++ all.drop (k + 1) := ⟨_, rfl⟩
   rw [← hal2]
   refine awR [] [none, none] ?_
   simp only [(id F_lDp), seval, cGrp, hlt0, hat0, h1, h2]
   repeat refine ob ?_
   repeat refine ob ?_
   have hperm2 : ((out ++ [(⟨p.1, p.2, l⟩ : GDisp)]).map dLeg ++ al2).Perm (spE g.ests 0 []) := by
    rw [hal2]
    refine List.Perm.trans ?_ hperm
    rw [List.map_append, List.append_assoc]
    refine List.Perm.append_left _ ?_
    have h1 : all = all.take k ++ (p :: all.drop (k + 1)) := by rw [← hpk, ← List.drop_eq_getElem_cons hkl, List.take_append_drop]
    show (p :: (all.take k ++ all.drop (k + 1))).Perm all
    conv => rhs; rw [h1]
    exact List.perm_middle.symm
   have hokd : ∀ d ∈ (out ++ [(⟨p.1, p.2, l⟩ : GDisp)]), okD d := by
    intro d hd
    rcases List.mem_append.1 hd with h | h
    ·
     exact hok d h
    obtain rfl := List.mem_singleton.1 h
    exact ⟨hl1, hl3, hlg⟩
   have hcn := cK_old so (⟨p.1, p.2, l⟩ : GDisp) hkk
   refine ⟨_, wk_on (exK kk so H (out ++ [(⟨p.1, p.2, l⟩ : GDisp)])) [2, 7, 8, 14, 15, 16] [1044] ?pf25, list.length - (j + 1), by omega, j + 1, (out ++ [(⟨p.1, p.2, l⟩ : GDisp)]), al2, ?ss25, so, ?na25, by omega, rfl, by simp; omega, by omega, hperm2, hokd, ?st25⟩
   case pf25 =>
    intro y B h
    right
    rw [exK_old _ _ _ hkk] at h
    have h9 := exK_lt hbH h
    simp only [up_apply]
    repeat rw [if_neg (by omega)]
    exact h
   case st25 => (simp only [(id F_lDp), seval, hcn, List.length_append, List.length_cons, List.length_nil]; first | rfl | (simp; done))
  repeat refine ob ?_
  refine ⟨_, opts_I2 x hx _ _ (fun y B hB => ?_), ?_⟩
  ·
   simp only [up_apply] at hB
   repeat (split at hB; · omega)
   have := exK_lt hbH hB; omega
  rintro res H' nx' ⟨l, so1, hl1, hl3, hlg, rfl, rfl⟩
  simp only [(id F_lDp), seval, (id SD), hatl, cLeg, cN4]
  repeat refine ob ?_
  refine awp_pubc 2066 1044 (out.length * 3 + 2) (by rfl) (by rfl) (by (try simp only [(id F_lDp), seval]); rw [List.getElem?_append_right (by rw [cK_len]; omega), cK_len, Nat.add_sub_cancel_left]; rfl) (by decide) (by show (4 : Nat) ≠ 0; decide) (by show (3 : Nat) ≠ 0; decide) rfl ?_
  have hst9 : ∀ q9 : List C, q9.length = 3 → ∀ y, (cellsK kk so out ++ q9).set (out.length * 3 + 2) y = cellsK kk so out ++ q9.set 2 y := fun q9 h9 y => by rw [List.set_append_right _ _ (by rw [cK_len]; omega), cK_len, Nat.add_sub_cancel_left]
  simp only [(id F_lDp), seval]
  rw [hst9 _ (by rfl)]
  simp only [(id F_lDp), seval, List.set_cons_succ, List.set_cons_zero]
  have hk1 : ((k : Int) + 1).toNat = k + 1 := by omega
  have hft := flat_take cLeg_len all k
  have hfd := flat_drop cLeg_len all (k + 1)
  have hfk : List.take ((all.length - (k + 1)) * 2) (flat cLeg (all.drop (k + 1))) = flat cLeg (all.drop (k + 1)) := List.take_of_length_le (by rw [flat_length cLeg_len, List.length_drop]; omega)
  refine awD (scq [1, 3, 5, 9, 11, 13, 15, 6, 16, 19] .nil) [none, none, none, none, none, none, none, none, none, none] ?_
  simp only [(id F_lDp), seval, cGrp, hlt0, hat0, h1, h2, hk1, hft, hfd, hfk, Nat.sub_zero]
  repeat refine ob ?_
  refine awp_pub (t := 8) (by rfl) (by rfl) (by decide) (by rfl) ?_
  simp only [(id F_lDp), seval]
  have hl8 : k + (all.length - (k + 1)) = (all.take k ++ all.drop (k + 1)).length := by simp; omega
  rw [show flat cLeg (all.take k) ++ flat cLeg (all.drop (k + 1)) = flat cLeg (all.take k ++ all.drop (k + 1)) by rw [flat_append]]
  rw [hl8]
  obtain ⟨al2, hal2⟩ : ∃ a, a = all.take k ++ all.drop (k + 1) := ⟨_, rfl⟩
  rw [← hal2]
  refine awR [] [none, none] ?_
  simp only [(id F_lDp), seval, cGrp, hlt0, hat0, h1, h2]
  repeat refine ob ?_
  repeat refine ob ?_
  have hperm2 : ((out ++ [(⟨p.1, p.2, l⟩ : GDisp)]).map dLeg ++ al2).Perm (spE g.ests 0 []) := by
   rw [hal2]
   refine List.Perm.trans ?_ hperm
   rw [List.map_append, List.append_assoc]
   refine List.Perm.append_left _ ?_
   have h1 : all = all.take k ++ (p :: all.drop (k + 1)) := by rw [← hpk, ← List.drop_eq_getElem_cons hkl, List.take_append_drop]
   show (p :: (all.take k ++ all.drop (k + 1))).Perm all
   conv => rhs; rw [h1]
   exact List.perm_middle.symm
  have hokd : ∀ d ∈ (out ++ [(⟨p.1, p.2, l⟩ : GDisp)]), okD d := by
   intro d hd
   rcases List.mem_append.1 hd with h | h
   ·
    exact hok d h
   obtain rfl := List.mem_singleton.1 h
   exact ⟨hl1, hl3, hlg⟩
  have hcn := cK_old so (⟨p.1, p.2, l⟩ : GDisp) hkk
  refine ⟨_, wk_on (exK kk so H (out ++ [(⟨p.1, p.2, l⟩ : GDisp)])) [2, 7, 8, 14, 15, 16] [1044] ?pf28, list.length - (j + 1), by omega, j + 1, (out ++ [(⟨p.1, p.2, l⟩ : GDisp)]), al2, ?ss28, so, ?na28, by omega, rfl, by simp; omega, by omega, hperm2, hokd, ?st28⟩
  case pf28 =>
   intro y B h
   right
   rw [exK_old _ _ _ hkk] at h
   have h9 := exK_lt hbH h
   simp only [up_apply]
   repeat rw [if_neg (by omega)]
   exact h
  case st28 => (simp only [(id F_lDp), seval, hcn, List.length_append, List.length_cons, List.length_nil]; first | rfl | (simp; done))
 refine awR [] [none] ?_
 simp only [(id F_lDp), seval, cGrp, hlt0]
 repeat refine ob ?_
 refine awF ?_
 refine awQ ?_
 simp only [(id F_lDp), seval]
 refine awR [] [none, none] ?_
 simp only [(id F_lDp), seval, cGrp, hlt0]
 repeat refine ob ?_
 refine awp_on (exK kk so H out) [6] [1044] (by intro y B h; right; have h9 := exK_lt hbH h; simp only [up_apply]; (repeat rw [if_neg (by omega)]); exact h) ?_
 simp only [(id F_lDp), seval]
 refine awX ?_
 simp only [(id F_lDp), seval]
 have hpl := hperm.length_eq
 rw [List.length_append, List.length_map] at hpl
 exact ⟨out, all, s, so, by omega, hperm, hok, rfl, rfl⟩
end Go.Proofs.YtpdmlemknomoeaaGreatDoor
end
