/- slices.Sort and slices.Compact at []int as contracts of the abstract machine. -/
import Derived.Test.YtinaeglgfomlaaaGreatDoorLawM
import Derived.Test.YtinaeglgfomlaaaGreatDoorAbGM
import Derived.Sort.OwnSortedInts
import Derived.Lib.RowBridge
set_option linter.unusedVariables false
set_option linter.unusedSimpArgs false
set_option linter.defProp false
set_option linter.unnecessarySimpa false
section
/- slices.Sort and slices.Compact at []int as contracts of the abstract machine. -/
namespace Go.Proofs.YtinaeglgfomlaaaGreatDoor
open Go Go.RowKit
def sorted (zs : List Int) : List Int := zs.mergeSort fun x y => decide (x ≤ y)
theorem sorted_length (zs : List Int) : (sorted zs).length = zs.length := by simp [sorted]
theorem denVs_cI {κ : Kx} : ∀ {xs : List Value} {zs : List Int}, denVs κ xs (flat cI zs) → xs = zs.map (Value.int .i64)
  | [], [], _ => rfl
  | x :: xs, z :: zs, h => by
    rw [flat_cons] at h
    simp only [cI, List.cons_append, List.nil_append, denVs, den] at h
    rw [h.1.1, denVs_cI h.2, List.map_cons]
  | [], z :: zs, h => by rw [flat_cons] at h; exact h.elim
  | x :: xs, [], h => h.elim
theorem cI_denVs {κ : Kx} : ∀ {zs : List Int}, denVs κ (zs.map (Value.int .i64)) (flat cI zs)
  | [] => trivial
  | z :: zs => by
    rw [flat_cons]
    simp only [cI, List.cons_append, List.nil_append, denVs, den, List.map_cons]
    exact ⟨⟨trivial, rfl⟩, cI_denVs⟩
theorem Sort_I (H : Hp) (nx nm s : Nat) (E : TypeId) (zs : List Int) (hH : H nm = some ⟨s, E, 1, zs.length, flat cI zs⟩) (hn : zs.length < 4611686018427387904) :
    ACallI Tryz.prog 111 [.one (.own nm s zs.length 1)] H nx (fun res H' nx' => res = .tup [] ∧ H' = up H nm (some ⟨s, E, 1, zs.length, flat cI (sorted zs)⟩) ∧ nx' = nx) := by
  refine ⟨⟨_, Tryz.func111, by decide, by rfl⟩, fun e σ w vs hW hvs => ?_⟩
  match vs, hvs with
  | [v], ⟨hv, _⟩ =>
    simp only [den1, den] at hv
    obtain ⟨f1, f2, f3⟩ := hv.2.2 _ hH rfl
    have hv' : v = σ nm := f1
    subst hv'
    obtain ⟨_, g2, xs, g3, g4⟩ := hW.rowOf hH (.inl (by simp))
    have hxs := denVs_cI g4
    subst hxs
    have fin : ∀ w', w.grownBy w' (σ nm).ownBlock → w'.ownsRow e.w0.heap.size E 1 (σ nm) zs.length ((sorted zs).map (Value.int .i64)) →
        ∃ v res H' nx' σ', Ending.returned (.tuple #[]) = .returned v ∧ RW e H' nx' σ' w' ∧ Ext (kx e H nx σ w) (kx e H' nx' σ' w') ∧ denA (kx e H' nx' σ' w') v res ∧ (res = .tup [] ∧ H' = up H nm (some ⟨s, E, 1, zs.length, flat cI (sorted zs)⟩) ∧ nx' = nx) := fun w' h1 h2 => by
      obtain ⟨k1, k2⟩ := hW.upd hH h1 (cs := flat cI (sorted zs)) (by simp) (by simp [flat_length cI_len, sorted_length]) h2 cI_denVs
      exact ⟨_, .tup [], _, nx, σ, rfl, k1, k2, ⟨[], rfl, trivial⟩, rfl, rfl, rfl⟩
    rcases g3.2 with ⟨q2, q1⟩ | ⟨g, cap, cur, q1, q2, q3, q4, q5, q6, q7⟩
    · have hz : zs = [] := List.eq_nil_of_length_eq_zero q1
      subst hz
      show Calls _ _ #[σ nm] w _
      rw [q2]
      refine (Tryz.slices_Sort_int_none none 0 w).mono ?_
      rintro ex w' ⟨rfl, rfl⟩
      refine fin _ (by rw [q2]; exact ⟨rfl, rfl, rfl, Nat.le_refl _, fun _ _ _ => rfl⟩) ?_
      have hs0 : sorted [] = [] := by simp [sorted]
      rw [q2, hs0]; exact World.ownsRow_nil _ _ _ _
    have q7' : cur.toList.take zs.length = zs.map (Value.int .i64) := by simpa using q7
    show Calls _ _ #[σ nm] w _
    rw [q1]
    refine (Tryz.slices_Sort_int g 0 cap zs w (holds_of_blockI q3 q7') ?_ hn).mono ?_
    · exact (Array.getElem?_eq_some_iff.1 q3).1
    rintro ex w' ⟨rfl, n, os, rfl⟩
    refine fin _ (by rw [q1]; exact grownBy_sortedI _) ?_
    rw [q1]
    exact ownsRow_sortedI (sorted_length zs) q2 q3 q4 q5 q6
theorem Compact_I (d : Nat) (H : Hp) (nx nm s : Nat) (E : TypeId) (zs : List Int) (hH : H nm = some ⟨s, E, 1, zs.length, flat cI zs⟩) (hn : zs.length < 4611686018427387904) :
    ACallI Tryz.prog 112 [.one (.own nm s zs.length 1)] H nx (fun res H' nx' => res = .val (.one (.own d nx (Lib.compact zs).length 1)) ∧ H' = up (up H nm none) d (some ⟨nx, E, 1, (Lib.compact zs).length, flat cI (Lib.compact zs)⟩) ∧ nx' = nx + 1) := by
  refine ⟨⟨_, Tryz.func112, by decide, by rfl⟩, fun e σ w vs hW hvs => ?_⟩
  match vs, hvs with
  | [v], ⟨hv, _⟩ =>
    simp only [den1, den] at hv
    obtain ⟨f1, f2, f3⟩ := hv.2.2 _ hH rfl
    have hv' : v = σ nm := f1
    subst hv'
    obtain ⟨_, g2, xs, g3, g4⟩ := hW.rowOf hH (.inl (by simp))
    have hxs := denVs_cI g4
    subst hxs
    have hle := Lib.compact_length_le zs
    have fin : ∀ w' v' row, w.grownBy w' row → (∀ r, row = some r → obk (σ nm) = some r) → (∀ r, obk v' = some r → obk (σ nm) = some r) → w'.ownsRow e.w0.heap.size E 1 v' (Lib.compact zs).length ((Lib.compact zs).map (Value.int .i64)) →
        ∃ v res H' nx' σ', Ending.returned v' = .returned v ∧ RW e H' nx' σ' w' ∧ Ext (kx e H nx σ w) (kx e H' nx' σ' w') ∧ denA (kx e H' nx' σ' w') v res ∧ (res = .val (.one (.own d nx (Lib.compact zs).length 1)) ∧ H' = up (up H nm none) d (some ⟨nx, E, 1, (Lib.compact zs).length, flat cI (Lib.compact zs)⟩) ∧ nx' = nx + 1) := fun w' v' row h1 h2 h3 h4 => by
      obtain ⟨k1, k2⟩ := hW.new (nm0 := nm) (d := d) (row := row) h1 (B' := ⟨nx, E, 1, (Lib.compact zs).length, flat cI (Lib.compact zs)⟩) (v' := v') rfl (by simp) (by simp [flat_length cI_len]) (fun r hr => ⟨h2 r hr, _, hH⟩) (fun r hr => .inr ⟨h3 r hr, _, hH⟩) h4 cI_denVs
      have ho : v'.oneCell' = true := by rcases h4.2 with ⟨h, _⟩ | ⟨g, cap, cur, h, _⟩ <;> rw [h] <;> rfl
      exact ⟨_, .val (.one (.own d nx _ 1)), _, _, _, rfl, k1, k2, den_new_own d σ _ ho, rfl, rfl, rfl⟩
    rcases g3.2 with ⟨q2, q1⟩ | ⟨g, cap, cur, q1, q2, q3, q4, q5, q6, q7⟩
    · have hz : zs = [] := List.eq_nil_of_length_eq_zero q1
      subst hz
      show Calls _ _ #[σ nm] w _
      rw [q2]
      refine (Tryz.slices_Compact_int_empty none 0 w).mono ?_
      rintro ex w' ⟨rfl, rfl⟩
      exact fin _ _ none ⟨rfl, rfl, rfl, Nat.le_refl _, fun _ _ _ => rfl⟩ (by simp) (by simp [obk]) (World.ownsRow_nil _ _ _ _)
    have q7' : cur.toList.take zs.length = zs.map (Value.int .i64) := by simpa using q7
    show Calls _ _ #[σ nm] w _
    rw [q1]
    have q4' : zs.length ≤ cap := q4
    refine (Tryz.slices_Compact_int g 0 cap zs w (holds_of_blockI q3 q7') (by omega) q4').mono ?_
    rintro ex w' ⟨rfl, q, rfl⟩
    have hgr := grownBy_sortedI (w := w) (g := g) (n := q) (os := #[]) (Lib.compact zs ++ List.replicate (zs.length - (Lib.compact zs).length) 0).toArray
    have hp := heap_sortedI (w := w) (n := q) (os := #[]) (Lib.compact zs ++ List.replicate (zs.length - (Lib.compact zs).length) 0).toArray q3
    rw [Sort.grow_empty] at hgr hp
    refine fin _ _ (some g) hgr (fun r hr => ?_) (fun r hr => ?_) ⟨by simp, .inr ⟨g, cap, _, rfl, q2, hp, by omega, q5, ?_, ?_⟩⟩
    · obtain rfl := Option.some.inj hr; rw [q1]; rfl
    · rw [q1]; exact hr
    · simp [Sort.putCells]; simpa using q6
    have hcs : zs.length ≤ cur.size := by
      have : cur.size = cap * 1 := q6
      omega
    have hl : (Lib.compact zs ++ List.replicate (zs.length - (Lib.compact zs).length) 0).length = zs.length := by simp; omega
    have := take_putCellsI cur (Lib.compact zs ++ List.replicate (zs.length - (Lib.compact zs).length) 0) (by rw [hl]; exact hcs)
    rw [hl] at this
    rw [Nat.mul_one]
    have h2 : List.take (Lib.compact zs).length (List.take zs.length (Sort.putCells (Value.int .i64) 0 (Lib.compact zs ++ List.replicate (zs.length - (Lib.compact zs).length) 0).toArray cur).toList) = (Lib.compact zs).map (Value.int .i64) := by
      rw [this, List.map_append, List.take_left' (by simp)]
    rwa [List.take_take, Nat.min_eq_left hle] at h2
end Go.Proofs.YtinaeglgfomlaaaGreatDoor
end
section
/- waterfall.members; walked by the abstract machine. -/
namespace Go.Proofs.YtinaeglgfomlaaaGreatDoor
open Go Go.RowKit
def idsOf : List GPart → List Int
  | [] => []
  | p :: l => if p.claim = -1 then idsOf l else p.claim :: idsOf l
def mem (a : GAgr) : List Int := Lib.compact (sorted (idsOf a.flatten))
theorem Compact_I' (d : Nat) (H : Hp) (nx nm s n : Nat) (E : TypeId) (zs : List Int) (hnz : n = zs.length) (hH : H nm = some ⟨s, E, 1, n, flat cI zs⟩) (hn : zs.length < 4611686018427387904) :
    ACallI Tryz.prog 112 [.one (.own nm s n 1)] H nx (fun res H' nx' => res = .val (.one (.own d nx (Lib.compact zs).length 1)) ∧ H' = up (up H nm none) d (some ⟨nx, E, 1, (Lib.compact zs).length, flat cI (Lib.compact zs)⟩) ∧ nx' = nx + 1) := by
  subst hnz
  exact Compact_I d H nx nm s E zs hH hn
def F_mems := And.intro zS (And.intro tf6 (And.intro tf0 (And.intro tf7 (And.intro tf8 (And.intro tf9 (And.intro tf10 (And.intro tf11 (And.intro tf12 (And.intro tf5 (tf13))))))))))
theorem members_A (a : GAgr) (h1 : a.length ≤ 1000000000000) (h2 : a.flatten.length ≤ 1000000000000) :
  ACall Tryz.prog 73 [.agg (cAgr a)] (.val (.one (.sh 1 (mem a).length (flat cI (mem a))))) := by
 have hC := Concat_A a h1 h2
 unfold mem
 refine acall_of Tryz.func73 rfl (by decide) (N := 27) rfl (by simp) (R := [.tmp 2]) rfl fun en k0 => ?_
 refine awR [] [none, none] ?_
 simp only [(id F_mems), seval, cAgr]
 refine awR [] [none] ?_
 simp only [(id F_mems), seval]
 refine awR [] [none, none, none, none, none] ?_
 simp only [(id F_mems), seval, cAgr]
 refine ⟨flat_pure cTier_pure a, _, hC, by simp [pureCs, pureC, flat_pure cPart_pure], ?_⟩
 simp only [Later, (id F_mems), seval]
 refine awp_keep [3, 8, 9, 10] [] ?_
 simp only [Later, (id F_mems), seval]
 refine awp_nil 3 21 3 1 (by decide) (by rfl) ?_
 refine awp_keep [3, 8, 9, 10] [21] ?_
 simp only [Later, (id F_mems), seval]
 repeat' first|apply awS|apply awB
 refine awp_loopw (fun n st => ∃ k nx s D, k ≤ a.flatten.length ∧ n = a.flatten.length - k ∧ D.length ≤ k ∧ D ++ idsOf (a.flatten.drop k) = idsOf a.flatten ∧ st = ⟨mkT [(3, .val (.one (.own 21 s D.length 1))), (8, .val (.one (.sh 5 a.flatten.length (flat cPart a.flatten)))), (9, one (.int .i64 a.flatten.length)), (10, one (.int .i64 k))], mkH [(21, ⟨s, 3, 1, D.length, flat cI D⟩)], nx, 0⟩) a.flatten.length ⟨0, _, _, [], by omega, by omega, by simp, rfl, rfl⟩ ?_
 rintro n st ⟨k, nx, s, D, hk, rfl, hDl, hD, rfl⟩
 generalize a.flatten = l at *
 by_cases hlt : k < l.length
 ·
  have hI : (k : Int) < (l.length : Int) := by omega
  have hat := flat_at cPart_len l k hlt
  rw [List.drop_eq_getElem_cons hlt] at hD
  generalize l[k] = p at *
  simp only [idsOf] at hD
  by_cases hc : p.claim = -1
  ·
   repeat' first|apply awS|apply awB
   refine awR [] [none] ?_
   simp only [(id F_mems), seval, hI]
   refine awT ?_
   refine awK ?_
   simp only [(id F_mems), seval]
   refine awR [] [none, none, none, none] ?_
   simp only [(id F_mems), seval, hat, cPart]
   repeat refine ob ?_
   refine awR [] [none, none, none] ?_
   simp only [(id F_mems), seval, hc]
   refine awF ?_
   refine awK ?_
   simp only [(id F_mems), seval]
   refine awR [] [none, none] ?_
   simp only [(id F_mems), seval]
   repeat refine ob ?_
   refine ⟨_, wk_keep [3, 8, 9, 10] [21], l.length - (k + 1), by omega, k + 1, nx + 1, s, D, by omega, rfl, by omega, ?_, ?_⟩
   ·
    rw [if_pos hc] at hD; exact hD
   simp only [(id F_mems), seval]
   try rfl
  repeat' first|apply awS|apply awB
  refine awR [] [none] ?_
  simp only [(id F_mems), seval, hI]
  refine awT ?_
  refine awK ?_
  simp only [(id F_mems), seval]
  refine awR [] [none, none, none, none] ?_
  simp only [(id F_mems), seval, hat, cPart]
  repeat refine ob ?_
  refine awR [] [none, none, none] ?_
  simp only [(id F_mems), seval, hc]
  refine awT ?_
  refine awR [] [none, none, none, none, none, none] ?_
  simp only [(id F_mems), seval]
  repeat refine ob ?_
  refine awR [] [none, none] ?_
  simp only [(id F_mems), seval]
  repeat refine ob ?_
  refine ⟨_, wk_keep [3, 8, 9, 10] [21], l.length - (k + 1), by omega, k + 1, nx + 3, nx + 2, D ++ [p.claim], by omega, rfl, by simp; omega, ?_, ?_⟩
  ·
   rw [if_neg hc] at hD; simpa using hD
  simp only [(id F_mems), seval, List.length_append, flat_append, flat_cons, flat_nil, cI]
  try rfl
 obtain rfl : k = l.length := by omega
 have hI : ¬ (l.length : Int) < (l.length : Int) := by omega
 rw [List.drop_length] at hD
 simp only [idsOf, List.append_nil] at hD
 subst hD
 refine awR [] [none] ?_
 simp only [(id F_mems), seval, hI]
 refine awF ?_
 refine awQ ?_
 simp only [(id F_mems), seval]
 refine awR [24] [none, none] ?_
 simp only [(id F_mems), seval]
 refine ⟨_, Sort_I _ _ 21 s _ (idsOf l) (by rfl) (by omega), ?_⟩
 rintro res H nx ⟨rfl, rfl, rfl⟩
 simp only [(id F_mems), seval]
 refine awR [26] [none, none, none] ?_
 simp only [(id F_mems), seval]
 refine ⟨_, Compact_I' 26 _ _ 21 s _ _ (sorted (idsOf l)) (sorted_length _).symm (by rfl) (by rw [sorted_length]; omega), ?_⟩
 rintro res H nx ⟨rfl, rfl, rfl⟩
 simp only [(id F_mems), seval]
 refine awX ?_
 simp only [(id F_mems), seval]
 exact flat_pure cI_pure _
end Go.Proofs.YtinaeglgfomlaaaGreatDoor
end
section
/- guarantee.holder, guarantee.checkDebt walked by the abstract machine. -/
namespace Go.Proofs.YtinaeglgfomlaaaGreatDoor
open Go Go.RowKit
instance : Inhabited GClaim := ⟨⟨0, 0, ⟨false, bEmpty, bEmpty⟩⟩⟩
def claimAt (es : List GEst) (l : Leg) : GClaim := (es.getD l.1.toNat ztEst).claims.getD l.2.toNat default
def inEsts (es : List GEst) (l : Leg) : Bool := decide (0 ≤ l.1) && decide (l.1 < es.length) && decide (0 ≤ l.2) && decide (l.2 < (es.getD l.1.toNat ztEst).claims.length)
theorem flat_get {α : Type} {f : α → List C} {sz : Nat} (hf : ∀ a, (f a).length = sz) (l : List α) (i : Int) (d : α) (h0 : 0 ≤ i) (h : i < l.length) : (flat f l).drop (i.toNat * sz) = f (l.getD i.toNat d) ++ flat f (l.drop (i.toNat + 1)) := by
  have hk : i.toNat < l.length := by omega
  rw [flat_at hf l i.toNat hk]
  congr 2
  simp [List.getD, hk]
def F_guarantee_holder := And.intro zS (And.intro tf14 (And.intro tf15 (And.intro tf16 (And.intro tf17 (And.intro tf18 (And.intro tf19 (And.intro tf20 (And.intro tf21 (And.intro tf22 (And.intro tf23 (And.intro tf24 (tf12))))))))))))
theorem holder_A (g : GGrp) (l : Leg) (h : inEsts g.ests l = true) :
  ACall Tryz.prog 95 [.agg (cGrp g), .agg (cLeg l)] (one (.int .i64 (claimAt g.ests l).holder)) := by
 simp only [inEsts, Bool.and_eq_true, decide_eq_true_eq] at h
 obtain ⟨⟨⟨h1, h2⟩, h3⟩, h4⟩ := h
 have a1 := flat_get cEst_len g.ests l.1 ztEst h1 h2
 have a2 := flat_get cClaim_len (g.ests.getD l.1.toNat ztEst).claims l.2 default h3 h4
 unfold claimAt
 generalize g.ests.getD l.1.toNat ztEst = e at *
 generalize e.claims.getD l.2.toNat default = c at *
 refine acall_of Tryz.func95 rfl (by decide) (N := 17) rfl (by simp) (R := [.tmp 4]) rfl fun en k0 => ?_
 refine awR [] [none, none, none] ?_
 simp only [(id F_guarantee_holder), seval, cGrp, cLeg]
 refine awD (scq [1, 3, 5, 7, 9, 11, 13, 15, 17, 19, 21, 23, 25] .nil) [none, none, none, none, none, none, none, none, none, none, none, none, none] ?_
 simp only [(id F_guarantee_holder), seval, a1, a2, cEst, cClaim]
 refine ⟨⟨h1, h2⟩, ⟨h3, h4⟩, ?_⟩
 refine awX ?_
 simp only [(id F_guarantee_holder), seval]
noncomputable def cdLoop (es : List GEst) (h0 : Int) : List Leg → List Leg → Int × List Leg
  | [], T => (0, T)
  | l :: ls, T => if inEsts es l = false then (1, T) else if l ∈ T then (20, T) else if (claimAt es l).holder ≠ h0 then (19, T) else cdLoop es h0 ls (T ++ [l])
noncomputable def cdSpec (g : GGrp) (d : GDebt) (T : List Leg) : Int × List Leg :=
  if 8 < d.legs.length then (2, T) else if qSgn (qOf d.whole) < 0 then (7, T) else cdLoop g.ests (claimAt g.ests (d.legs.getD 0 (0, 0))).holder d.legs T
def mapB (s : Nat) (T : List Leg) : Blk := ⟨s, 104, 0, 0, setC T⟩
def F_guarantee_checkDebt := And.intro zS (And.intro tf15 (And.intro tf25 (And.intro tf16 (And.intro tf17 (And.intro tf26 (And.intro tf27 (And.intro tf28 (And.intro tf19 (And.intro tf20 (And.intro tf21 (And.intro tf22 (And.intro tf23 (And.intro tf24 (And.intro tf29 (And.intro tf30 (And.intro tf31 (And.intro tf32 (And.intro tf12 (And.intro tf33 (tf34))))))))))))))))))))
theorem on66 {H : Hp} {f : Hp} (hb : ∀ x B, H x = some B → x < 1000) (hf : ∀ x, x < 1000 → x ≠ 66 → f x = H x) (l : List Nat) : ∀ x B, H x = some B → hasN (66 :: l) x = true ∨ f x = some B := fun x B hB => by
  by_cases hx : x = 66
  · left; subst hx; rfl
  right; rw [hf x (hb x B hB) hx]; exact hB
set_option maxHeartbeats 1000000 in
theorem checkDebt_I (g : GGrp) (d : GDebt) (T : List Leg) (H : Hp) (nx0 s : Nat) (hb : ∀ x B, H x = some B → x < 1000) (hH : H 66 = some (mapB s T)) (h1 : d.whole.num.size ≤ 500000000000) (h2 : d.whole.den.size ≤ 500000000000) :
  ACallI Tryz.prog 49 [.agg (cGrp g), .agg (cDebt d), .one (.own 66 s 0 0)] H nx0
   (fun res H' _ => res = one (.int .i64 (cdSpec g d T).1) ∧ H' 66 = some (mapB s (cdSpec g d T).2) ∧ ∀ x, x < 1000 → x ≠ 66 → H' x = H x) := by
 have hS := aSign d.whole h1 h2
 unfold cdSpec
 refine acallI_of 1000 Tryz.func49 rfl (by decide) (N := 74) rfl (by simp) (Rl := [.tmp 6]) rfl fun en k0 => ?_
 by_cases hlen : 8 < d.legs.length
 ·
  have hI : (8 : Int) < (d.legs.length : Int) := by omega
  refine awR [] [none, none, none] ?_
  simp only [(id F_guarantee_checkDebt), seval, cGrp, cDebt]
  refine awR [] [none, none, none, none, none] ?_
  simp only [(id F_guarantee_checkDebt), seval, hI]
  refine awT ?_
  refine awR [] [none] ?_
  simp only [(id F_guarantee_checkDebt), seval]
  refine awX ?_
  simp only [(id F_guarantee_checkDebt), seval, hlen, hH]
  exact (fun x h1 h2 => by (try simp only [up_apply]); repeat rw [if_neg (by omega)])
 have hI : ¬ (8 : Int) < (d.legs.length : Int) := by omega
 by_cases hq : qSgn (qOf d.whole) < 0
 ·
  repeat' first|apply awS|apply awB
  refine awR [] [none, none, none] ?_
  simp only [(id F_guarantee_checkDebt), seval, cGrp, cDebt]
  refine awR [] [none, none, none, none, none] ?_
  simp only [(id F_guarantee_checkDebt), seval, hI]
  refine awF ?_
  refine awR [] [none, none, none, none, none] ?_
  simp only [(id F_guarantee_checkDebt), seval]
  refine ⟨_, hS, rfl, ?_⟩
  simp only [Later, (id F_guarantee_checkDebt), seval, hq]
  refine awT ?_
  refine awR [] [none] ?_
  simp only [(id F_guarantee_checkDebt), seval]
  refine awX ?_
  simp only [(id F_guarantee_checkDebt), seval, hlen, hH]
  exact (fun x h1 h2 => by (try simp only [up_apply]); repeat rw [if_neg (by omega)])
 repeat' first|apply awS|apply awB
 refine awR [] [none, none, none] ?_
 simp only [(id F_guarantee_checkDebt), seval, cGrp, cDebt]
 refine awR [] [none, none, none, none, none] ?_
 simp only [(id F_guarantee_checkDebt), seval, hI]
 refine awF ?_
 refine awR [] [none, none, none, none, none] ?_
 simp only [(id F_guarantee_checkDebt), seval]
 refine ⟨_, hS, rfl, ?_⟩
 simp only [Later, (id F_guarantee_checkDebt), seval, hq]
 refine awF ?_
 refine awK ?_
 simp only [(id F_guarantee_checkDebt), seval]
 refine awR [] [none, none, none, none] ?_
 simp only [(id F_guarantee_checkDebt), seval]
 simp only [hlen, if_false]
 refine awp_on H [2, 3, 4, 20, 21, 22] [66, 1003, 1004] (on66 hb (fun x h1 h2 => by (try simp only [up_apply]); repeat rw [if_neg (by omega)]) _) ?_
 simp only [Later, (id F_guarantee_checkDebt), seval, hH]
 generalize hh0 : (claimAt g.ests (d.legs.getD 0 (0, 0))).holder = hd0
 repeat' first|apply awS|apply awB
 refine awp_loopw (fun n st => ∃ k nx T1, k ≤ d.legs.length ∧ n = d.legs.length - k ∧ cdLoop g.ests hd0 (d.legs.drop k) T1 = cdLoop g.ests hd0 d.legs T ∧ (0 < k → inEsts g.ests (d.legs.getD 0 (0, 0)) = true) ∧ st = ⟨mkT [(2, .val (.one (.own 66 s 0 0))), (3, .val (.one (.ptr 1003 nx0 0))), (4, .val (.one (.ptr 1004 (nx0 + 1) 0))), (20, .val (.one (.sh 2 d.legs.length (flat cLeg d.legs)))), (21, one (.int .i64 d.legs.length)), (22, one (.int .i64 k))], mkOn H [(66, mapB s T1), (1003, ⟨nx0, 28, 2, 1, cGrp g⟩), (1004, ⟨nx0 + 1, 42, 4, 1, cDebt d⟩)], nx, 1000⟩) d.legs.length ⟨0, _, T, by omega, by omega, rfl, by omega, rfl⟩ ?_
 rintro n st ⟨k, nx, T1, hk, rfl, hL, h0, rfl⟩
 by_cases hlt : k < d.legs.length
 ·
  have hI : (k : Int) < (d.legs.length : Int) := by omega
  have hI0 : (0 : Int) < (d.legs.length : Int) := by omega
  have hat := flat_at cLeg_len d.legs k hlt
  have hdr : d.legs.drop k = d.legs[k] :: d.legs.drop (k + 1) := List.drop_eq_getElem_cons hlt
  have ht0 : List.take 2 (flat cLeg d.legs) = cLeg (d.legs.getD 0 (0, 0)) := by
   have h5 : 0 < d.legs.length := by omega
   have := flat_at cLeg_len d.legs 0 h5
   simp only [Nat.zero_mul, List.drop_zero] at this
   rw [this, List.take_left' (cLeg_len _)]
   simp [List.getD, h5]
  have hlen0 : 2 ≤ (flat cLeg d.legs).length := by rw [flat_length cLeg_len]; omega
  have hk0 : k = 0 → d.legs[k] = d.legs.getD 0 (0, 0) := fun h => by subst h; simp [List.getD, hlt]
  rw [hdr] at hL
  generalize d.legs[k] = l at *
  simp only [cdLoop] at hL
  have RES : ∀ (c : Int), (if inEsts g.ests l = false then ((1 : Int), T1) else if l ∈ T1 then (20, T1) else if (claimAt g.ests l).holder ≠ hd0 then (19, T1) else cdLoop g.ests hd0 (List.drop (k + 1) d.legs) (T1 ++ [l])) = (c, T1) → cdLoop g.ests hd0 d.legs T = (c, T1) := fun c h => hL.symm.trans h
  by_cases hin : inEsts g.ests l = true
  ·
   have hin' := hin
   simp only [inEsts, Bool.and_eq_true, decide_eq_true_eq] at hin'
   obtain ⟨⟨⟨e1, e2⟩, e3⟩, e4⟩ := hin'
   have a1 := flat_get cEst_len g.ests l.1 ztEst e1 e2
   have hH1 := holder_A g l hin
   have hin0 : inEsts g.ests (d.legs.getD 0 (0, 0)) = true := by
    rcases Nat.eq_zero_or_pos k with h | h
    ·
     rw [← hk0 h]; exact hin
    exact h0 h
   have hH2 := holder_A g (d.legs.getD 0 (0, 0)) hin0
   rw [hh0] at hH2
   generalize d.legs.getD 0 (0, 0) = l0 at *
   have n1 : ¬ l.1 < 0 := by omega
   have n2 : ¬ (g.ests.length : Int) ≤ l.1 := by omega
   have n3 : ¬ l.2 < 0 := by omega
   have n4 : ¬ ((g.ests.getD l.1.toNat ztEst).claims.length : Int) ≤ l.2 := by omega
   refine awR [] [none] ?_
   simp only [(id F_guarantee_checkDebt), seval, hI]
   refine awT ?_
   refine awK ?_
   simp only [(id F_guarantee_checkDebt), seval]
   refine awR [] [none, none, none, none] ?_
   simp only [(id F_guarantee_checkDebt), seval, hat, cLeg]
   repeat refine ob ?_
   refine awD (scq [1, 3, 5, 7, 9, 11, 13, 15, 17, 19, 21, 23, 25, 27, 29, 31, 33, 35, 37, 39, 41, 43, 45, 47, 49, 51, 53, 55, 57, 59] .nil) [none, none, none, none, some (30, false), some (30, false), some (30, false), some (30, false), some (30, false), some (30, false), none, none, some (38, false), some (38, false), some (38, false), none, none, some (43, false), some (43, false), some (43, false), some (43, false), some (43, false), some (43, false), some (43, false), some (43, false), some (43, false), some (43, false), some (43, false), none, none] ?_
   simp only [(id F_guarantee_checkDebt), seval, n1, n2, n3, n4, a1, cEst, cGrp]
   repeat refine ob ?_
   refine awF ?_
   by_cases hm : l ∈ T1
   ·
    repeat' first|apply awS|apply awB
    refine awR [] [none, none, none, none] ?_
    simp only [(id F_guarantee_checkDebt), seval, mget_in l T1 hm, mapB, Option.getD_some, Option.isSome_some]
    refine ⟨MK_leg l T1, ?_⟩
    refine awT ?_
    refine awR [] [none] ?_
    simp only [(id F_guarantee_checkDebt), seval]
    have hR := RES 20 (by simp [hin, hm])
    refine awX ?_
    simp only [(id F_guarantee_checkDebt), seval, hR, mapB]
    exact (fun x h1 h2 => by (try simp only [up_apply]); repeat rw [if_neg (by omega)])
   repeat' first|apply awS|apply awB
   refine awR [] [none, none, none, none] ?_
   simp only [(id F_guarantee_checkDebt), seval, mget_out l T1 hm, mapB, Option.getD_none]
   refine ⟨MK_leg l T1, ?_⟩
   refine awF ?_
   by_cases hne : (claimAt g.ests l).holder = hd0
   ·
    repeat' first|apply awS|apply awB
    refine awD (scq [1, 3, 7, 9, 11, 13, 15, 4, 16, 19, 21] .nil) [none, none, none, none, none, none, none, none, none, none, none] ?_
    simp only [(id F_guarantee_checkDebt), seval, cDebt, ht0, cLeg, flat_pure cEst_pure, flat_pure cDebt_pure]
    repeat refine ob ?_
    refine ⟨_, hH1, rfl, ?_⟩
    simp only [Later, (id F_guarantee_checkDebt), seval, cLeg, flat_pure cEst_pure, flat_pure cDebt_pure]
    repeat refine ob ?_
    refine ⟨_, hH2, rfl, ?_⟩
    simp only [Later, (id F_guarantee_checkDebt), seval, hne]
    refine awF ?_
    refine awK ?_
    simp only [(id F_guarantee_checkDebt), seval]
    refine awR [] [none, none, none] ?_
    simp only [(id F_guarantee_checkDebt), seval, mput_new l T1 hm, mapB]
    refine ⟨MK_leg l T1, ?_⟩
    refine awR [] [none, none] ?_
    simp only [(id F_guarantee_checkDebt), seval]
    repeat refine ob ?_
    refine ⟨_, wk_on H [2, 3, 4, 20, 21, 22] [66, 1003, 1004] (on66 hb (fun x h1 h2 => by (try simp only [up_apply]); repeat rw [if_neg (by omega)]) _), d.legs.length - (k + 1), by omega, k + 1, nx + 1, T1 ++ [l], by omega, rfl, ?_, fun _ => hin0, ?_⟩
    ·
     rw [← hL]; simp [hin, hm, hne]
    simp only [(id F_guarantee_checkDebt), seval, mapB]
    try rfl
   repeat' first|apply awS|apply awB
   refine awD (scq [1, 3, 7, 9, 11, 13, 15, 4, 16, 19, 21] .nil) [none, none, none, none, none, none, none, none, none, none, none] ?_
   simp only [(id F_guarantee_checkDebt), seval, cDebt, ht0, cLeg, flat_pure cEst_pure, flat_pure cDebt_pure]
   repeat refine ob ?_
   refine ⟨_, hH1, rfl, ?_⟩
   simp only [Later, (id F_guarantee_checkDebt), seval, cLeg, flat_pure cEst_pure, flat_pure cDebt_pure]
   repeat refine ob ?_
   refine ⟨_, hH2, rfl, ?_⟩
   simp only [Later, (id F_guarantee_checkDebt), seval, hne]
   refine awT ?_
   refine awR [] [none] ?_
   simp only [(id F_guarantee_checkDebt), seval]
   have hR := RES 19 (by simp [hin, hm, hne])
   refine awX ?_
   simp only [(id F_guarantee_checkDebt), seval, hR, mapB]
   exact (fun x h1 h2 => by (try simp only [up_apply]); repeat rw [if_neg (by omega)])
  have hin' : inEsts g.ests l = false := by simpa using hin
  have hR := RES 1 (by simp [hin'])
  by_cases p1 : l.1 < 0
  ·
   refine awR [] [none] ?_
   simp only [(id F_guarantee_checkDebt), seval, hI]
   refine awT ?_
   refine awK ?_
   simp only [(id F_guarantee_checkDebt), seval]
   refine awR [] [none, none, none, none] ?_
   simp only [(id F_guarantee_checkDebt), seval, hat, cLeg]
   repeat refine ob ?_
   refine awD (scq [1, 3, 5, 7, 9, 11, 13, 15, 17, 19, 21, 23, 25, 27, 29, 31, 33, 35, 37, 39, 41, 43, 45, 47, 49, 51, 53, 55, 57, 59] .nil) [none, none, none, none, some (30, false), some (30, false), some (30, false), some (30, false), some (30, false), some (30, false), none, none, some (38, false), some (38, false), some (38, false), none, none, some (43, false), some (43, false), some (43, false), some (43, false), some (43, false), some (43, false), some (43, false), some (43, false), some (43, false), some (43, false), some (43, false), none, none] ?_
   simp only [(id F_guarantee_checkDebt), seval, p1, cGrp]
   repeat refine ob ?_
   refine awT ?_
   refine awR [] [none] ?_
   simp only [(id F_guarantee_checkDebt), seval]
   refine awX ?_
   simp only [(id F_guarantee_checkDebt), seval, hR, mapB]
   exact (fun x h1 h2 => by (try simp only [up_apply]); repeat rw [if_neg (by omega)])
  by_cases p2 : (g.ests.length : Int) ≤ l.1
  ·
   refine awR [] [none] ?_
   simp only [(id F_guarantee_checkDebt), seval, hI]
   refine awT ?_
   refine awK ?_
   simp only [(id F_guarantee_checkDebt), seval]
   refine awR [] [none, none, none, none] ?_
   simp only [(id F_guarantee_checkDebt), seval, hat, cLeg]
   repeat refine ob ?_
   refine awD (scq [1, 3, 5, 7, 9, 11, 13, 15, 17, 19, 21, 23, 25, 27, 29, 31, 33, 35, 37, 39, 41, 43, 45, 47, 49, 51, 53, 55, 57, 59] .nil) [none, none, none, none, some (30, false), some (30, false), some (30, false), some (30, false), some (30, false), some (30, false), none, none, some (38, false), some (38, false), some (38, false), none, none, some (43, false), some (43, false), some (43, false), some (43, false), some (43, false), some (43, false), some (43, false), some (43, false), some (43, false), some (43, false), some (43, false), none, none] ?_
   simp only [(id F_guarantee_checkDebt), seval, p1, p2, cGrp]
   repeat refine ob ?_
   refine awT ?_
   refine awR [] [none] ?_
   simp only [(id F_guarantee_checkDebt), seval]
   refine awX ?_
   simp only [(id F_guarantee_checkDebt), seval, hR, mapB]
   exact (fun x h1 h2 => by (try simp only [up_apply]); repeat rw [if_neg (by omega)])
  by_cases p3 : l.2 < 0
  ·
   refine awR [] [none] ?_
   simp only [(id F_guarantee_checkDebt), seval, hI]
   refine awT ?_
   refine awK ?_
   simp only [(id F_guarantee_checkDebt), seval]
   refine awR [] [none, none, none, none] ?_
   simp only [(id F_guarantee_checkDebt), seval, hat, cLeg]
   repeat refine ob ?_
   refine awD (scq [1, 3, 5, 7, 9, 11, 13, 15, 17, 19, 21, 23, 25, 27, 29, 31, 33, 35, 37, 39, 41, 43, 45, 47, 49, 51, 53, 55, 57, 59] .nil) [none, none, none, none, some (30, false), some (30, false), some (30, false), some (30, false), some (30, false), some (30, false), none, none, some (38, false), some (38, false), some (38, false), none, none, some (43, false), some (43, false), some (43, false), some (43, false), some (43, false), some (43, false), some (43, false), some (43, false), some (43, false), some (43, false), some (43, false), none, none] ?_
   simp only [(id F_guarantee_checkDebt), seval, p1, p2, p3, cGrp]
   repeat refine ob ?_
   refine awT ?_
   refine awR [] [none] ?_
   simp only [(id F_guarantee_checkDebt), seval]
   refine awX ?_
   simp only [(id F_guarantee_checkDebt), seval, hR, mapB]
   exact (fun x h1 h2 => by (try simp only [up_apply]); repeat rw [if_neg (by omega)])
  have a1 := flat_get cEst_len g.ests l.1 ztEst (by omega) (by omega)
  have p4 : ((g.ests.getD l.1.toNat ztEst).claims.length : Int) ≤ l.2 := by
   simp only [inEsts] at hin'
   by_cases q : ((g.ests.getD l.1.toNat ztEst).claims.length : Int) ≤ l.2
   ·
    exact q
   have e1 : 0 ≤ l.1 := by omega
   have e2 : l.1 < (g.ests.length : Int) := by omega
   have e3 : 0 ≤ l.2 := by omega
   have e4 : l.2 < ((g.ests.getD l.1.toNat ztEst).claims.length : Int) := by omega
   rw [decide_eq_true e1, decide_eq_true e2, decide_eq_true e3, decide_eq_true e4] at hin'
   cases hin'
  refine awR [] [none] ?_
  simp only [(id F_guarantee_checkDebt), seval, hI]
  refine awT ?_
  refine awK ?_
  simp only [(id F_guarantee_checkDebt), seval]
  refine awR [] [none, none, none, none] ?_
  simp only [(id F_guarantee_checkDebt), seval, hat, cLeg]
  repeat refine ob ?_
  refine awD (scq [1, 3, 5, 7, 9, 11, 13, 15, 17, 19, 21, 23, 25, 27, 29, 31, 33, 35, 37, 39, 41, 43, 45, 47, 49, 51, 53, 55, 57, 59] .nil) [none, none, none, none, some (30, false), some (30, false), some (30, false), some (30, false), some (30, false), some (30, false), none, none, some (38, false), some (38, false), some (38, false), none, none, some (43, false), some (43, false), some (43, false), some (43, false), some (43, false), some (43, false), some (43, false), some (43, false), some (43, false), some (43, false), some (43, false), none, none] ?_
  simp only [(id F_guarantee_checkDebt), seval, p1, p2, p3, p4, a1, cEst, cGrp]
  repeat refine ob ?_
  refine awT ?_
  refine awR [] [none] ?_
  simp only [(id F_guarantee_checkDebt), seval]
  refine awX ?_
  simp only [(id F_guarantee_checkDebt), seval, hR, mapB]
  exact (fun x h1 h2 => by (try simp only [up_apply]); repeat rw [if_neg (by omega)])
 obtain rfl : k = d.legs.length := by omega
 have hI : ¬ (d.legs.length : Int) < (d.legs.length : Int) := by omega
 rw [List.drop_length] at hL
 simp only [cdLoop] at hL
 refine awR [] [none] ?_
 simp only [(id F_guarantee_checkDebt), seval, hI]
 refine awF ?_
 refine awQ ?_
 simp only [(id F_guarantee_checkDebt), seval]
 refine awR [] [none] ?_
 simp only [(id F_guarantee_checkDebt), seval]
 refine awX ?_
 simp only [(id F_guarantee_checkDebt), seval, ← hL, mapB]
 exact (fun x h1 h2 => by (try simp only [up_apply]); repeat rw [if_neg (by omega)])
end Go.Proofs.YtinaeglgfomlaaaGreatDoor
end
