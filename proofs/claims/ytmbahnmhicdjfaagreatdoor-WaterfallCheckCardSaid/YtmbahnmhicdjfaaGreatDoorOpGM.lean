/- Arguments that are groups of estates, opened as cells. -/
import Derived.Test.YtmbahnmhicdjfaaGreatDoorAbGM
import Derived.Test.YtmbahnmhicdjfaaGreatDoorWf6M
set_option linter.unusedVariables false
set_option linter.unusedSimpArgs false
set_option linter.defProp false
set_option linter.unnecessarySimpa false
section
/- Arguments that are groups of estates, opened as cells. -/
namespace Go.Proofs.YtmbahnmhicdjfaaGreatDoor
open Go.RowKit Go.ChangeShapes Go.WideShapes Go.ChangeAt Go
def rC {α : Type} (enc : α → List C) (ok : α → Prop) : CRep α := fun W T cs a => denVs (kIn W T W) cs (enc a) ∧ ok a
def cSl {α : Type} (sz : Nat) (enc : α → List C) (l : List α) : List C := [.sh sz l.length (flat enc l)]
def okSl {α : Type} (ok : α → Prop) (l : List α) : Prop := l.length ≤ maxLen ∧ ∀ a ∈ l, ok a
theorem denM_append {κ : Kx} {b : Nat} : ∀ {xs ys : List C} {off : Nat}, denM κ b off xs → denM κ b (off + xs.length) ys → denM κ b off (xs ++ ys)
  | [], ys, off, _, h => by simpa using h
  | x :: xs, ys, off, h, k => by
    simp only [denM, List.cons_append] at h ⊢
    refine ⟨h.1, denM_append h.2 ?_⟩
    rw [List.length_cons] at k
    rwa [Nat.add_assoc, Nat.add_comm 1]
theorem denM_flat {α : Type} {enc : α → List C} {sz : Nat} (hlen : ∀ a, (enc a).length = sz) {κ : Kx} {b : Nat} :
    ∀ (l : List α) (off : Nat), (∀ j (h : j < l.length), ∃ cs, cs.length = sz ∧ (∀ c, c < sz → κ.w.cell? ⟨b, off + j * sz + c, none⟩ = cs[c]?) ∧ denVs κ cs (enc l[j])) → denM κ b off (flat enc l)
  | [], _, _ => by simp [flat, denM]
  | a :: l, off, h => by
    rw [flat_cons]
    refine denM_append ?_ ?_
    · obtain ⟨cs, h1, h2, h3⟩ := h 0 (by simp)
      refine denM.of_vals h3 fun j u hj => ?_
      have hlt : j < sz := by rw [← h1]; exact (List.getElem?_eq_some_iff.1 hj).1
      have := h2 j hlt
      rw [← hj, ← this]
      simp
    rw [hlen]
    refine denM_flat hlen l (off + sz) fun j hj => ?_
    obtain ⟨cs, h1, h2, h3⟩ := h (j + 1) (by simpa using hj)
    refine ⟨cs, h1, fun c hc => ?_, by simpa using h3⟩
    rw [← h2 c hc]
    congr 2
    rw [Nat.succ_mul]; omega
theorem opens_sl {P : Program} {t e : TypeId} {α : Type} {enc : α → List C} {ok : α → Prop} {sz : Nat} (ht : P.underlying t = some (.slice e)) (hc : P.cellsOf e = sz) (hsz : 0 < sz) (hlen : ∀ a, (enc a).length = sz)
    (he : Opens P e (rC enc ok)) : Opens P t (rC (cSl sz enc) (okSl ok)) := by
  intro H nc W fuel cs x h
  obtain ⟨l, a, cap, rfl, h1, h2, h3, h4⟩ := opens_slice ht hc hsz he H nc W fuel cs x h
  have hl : l.length ≤ maxLen := Nat.le_trans h1 h2
  rcases h4 with rfl | ⟨b, off, rfl, hb, hall⟩
  · exact ⟨[], ⟨⟨a, cap, rfl, h1, h2, h3, by simp [flat], .inl rfl⟩, trivial⟩, hl, fun _ h => by cases h⟩
  refine ⟨l, ⟨⟨_, cap, rfl, h1, h2, h3, flat_length hlen l, .inr ⟨b, off, rfl, kAll_S hb, denM_flat hlen l off fun j hj => ?_⟩⟩, trivial⟩, hl, fun y hy => ?_⟩
  · obtain ⟨cs, k1, k2, k3⟩ := hall j hj
    exact ⟨cs, k1, k2, k3.1⟩
  obtain ⟨j, hj, rfl⟩ := List.getElem_of_mem hy
  obtain ⟨cs, k1, k2, k3⟩ := hall j hj
  exact k3.2
theorem opensC_i64 {P : Program} {t : TypeId} (ht : P.underlying t = some (.int .i64)) : Opens P t (rC cI i64ok) := by
  intro H enc W fuel cs x h
  obtain ⟨n, rfl, hn⟩ := opens_i64 ht H enc W fuel cs x h
  exact ⟨n, ⟨⟨rfl, rfl⟩, trivial⟩, hn⟩
def cBo (b : Bool) : List C := [.lit (.bool b)]
theorem opensC_bool {P : Program} {t : TypeId} (ht : P.underlying t = some .bool) : Opens P t (rC cBo fun _ => True) := by
  intro H enc W fuel cs x h
  obtain ⟨b, e0, _⟩ := DataW.trod_bool ht h
  subst e0
  exact ⟨b, ⟨⟨rfl, rfl⟩, trivial⟩, trivial⟩
def okRat (r : GRat) : Prop := r.num.size ≤ maxLen ∧ r.den.size ≤ maxLen
theorem opensC_rat : Opens Tryz.prog 32 (rC cRat okRat) := by
  intro H enc W fuel cs x h
  obtain ⟨r, rfl, h1, h2⟩ := opens_rat H enc W fuel cs x h
  exact ⟨r, ⟨⟨rfl, rfl⟩, ⟨rfl, rfl⟩, ⟨rfl, rfl⟩, trivial⟩, h1, h2⟩
theorem Tryz.cellsIntC : Tryz.prog.cellsOf 3 = 1 := by kernel_rfl
theorem opensC_int : Opens Tryz.prog 3 (rC cI i64ok) := opensC_i64 Tryz.underlying3
theorem opensC_boolT : Opens Tryz.prog 4 (rC cBo fun _ => True) := opensC_bool Tryz.underlying4
theorem Tryz.cellsCClaim : Tryz.prog.cellsOf 38 = 5 := by kernel_rfl
def okClaim (x : GClaim) : Prop := i64ok x.holder ∧ i64ok x.rank ∧ okRat x.amount
set_option maxRecDepth 100000 in
theorem opensC_Claim : Opens Tryz.prog 38 (rC cClaim okClaim) := by
  refine opens_fields Tryz.underlying38 fun H enc W n cs hl hf => ?_
  rw [Tryz.cellsCClaim] at hl
  match cs, hl with
  | [c0, c1, c2, c3, c4], _ =>
    obtain ⟨x0, h0⟩ := hf 0 _ 1 rfl Tryz.cellsIntC
    obtain ⟨a0, k0, o0⟩ := opensC_int H enc W _ _ _ h0
    replace k0 : denVs (kAll W) [c0] _ := k0
    obtain ⟨x1, h1⟩ := hf 1 _ 1 rfl Tryz.cellsIntC
    obtain ⟨a1, k1, o1⟩ := opensC_int H enc W _ _ _ h1
    replace k1 : denVs (kAll W) [c1] _ := k1
    obtain ⟨x2, h2⟩ := hf 2 _ 3 rfl Tryz.cellsRat
    obtain ⟨a2, k2, o2⟩ := opensC_rat H enc W _ _ _ h2
    replace k2 : denVs (kAll W) [c2, c3, c4] _ := k2
    exact ⟨⟨a0, a1, a2⟩, (denVs.append k0 (denVs.append k1 k2)), o0, o1, o2⟩
theorem Tryz.cellsCClaims : Tryz.prog.cellsOf 33 = 1 := by kernel_rfl
theorem opensC_Claims : Opens Tryz.prog 33 (rC (cSl 5 cClaim) (okSl okClaim)) := opens_sl Tryz.underlying33 Tryz.cellsCClaim (by decide) cClaim_len opensC_Claim
theorem Tryz.cellsCPart : Tryz.prog.cellsOf 46 = 5 := by kernel_rfl
def okPart (x : GPart) : Prop := i64ok x.claim ∧ True ∧ okRat x.cap
set_option maxRecDepth 100000 in
theorem opensC_Part : Opens Tryz.prog 46 (rC cPart okPart) := by
  refine opens_fields Tryz.underlying46 fun H enc W n cs hl hf => ?_
  rw [Tryz.cellsCPart] at hl
  match cs, hl with
  | [c0, c1, c2, c3, c4], _ =>
    obtain ⟨x0, h0⟩ := hf 0 _ 1 rfl Tryz.cellsIntC
    obtain ⟨a0, k0, o0⟩ := opensC_int H enc W _ _ _ h0
    replace k0 : denVs (kAll W) [c0] _ := k0
    obtain ⟨x1, h1⟩ := hf 1 _ 1 rfl Tryz.cellsBool
    obtain ⟨a1, k1, o1⟩ := opensC_boolT H enc W _ _ _ h1
    replace k1 : denVs (kAll W) [c1] _ := k1
    obtain ⟨x2, h2⟩ := hf 2 _ 3 rfl Tryz.cellsRat
    obtain ⟨a2, k2, o2⟩ := opensC_rat H enc W _ _ _ h2
    replace k2 : denVs (kAll W) [c2, c3, c4] _ := k2
    exact ⟨⟨a0, a1, a2⟩, (denVs.append k0 (denVs.append k1 k2)), o0, o1, o2⟩
theorem Tryz.cellsCParts : Tryz.prog.cellsOf 47 = 1 := by kernel_rfl
theorem opensC_Parts : Opens Tryz.prog 47 (rC (cSl 5 cPart) (okSl okPart)) := opens_sl Tryz.underlying47 Tryz.cellsCPart (by decide) cPart_len opensC_Part
theorem Tryz.cellsCTiers : Tryz.prog.cellsOf 48 = 1 := by kernel_rfl
theorem opensC_Tiers : Opens Tryz.prog 48 (rC (cSl 1 (cSl 5 cPart)) (okSl (okSl okPart))) := opens_sl Tryz.underlying48 Tryz.cellsCParts (by decide) (fun _ => rfl) opensC_Parts
theorem Tryz.cellsCAgr : Tryz.prog.cellsOf 50 = 1 := by kernel_rfl
def okAgr (x : GAgr) : Prop := okSl (okSl okPart) x
set_option maxRecDepth 100000 in
theorem opensC_Agr : Opens Tryz.prog 50 (rC cAgr okAgr) := by
  refine opens_fields Tryz.underlying50 fun H enc W n cs hl hf => ?_
  rw [Tryz.cellsCAgr] at hl
  match cs, hl with
  | [c0], _ =>
    obtain ⟨x0, h0⟩ := hf 0 _ 1 rfl Tryz.cellsCTiers
    obtain ⟨a0, k0, o0⟩ := opensC_Tiers H enc W _ _ _ h0
    replace k0 : denVs (kAll W) [c0] _ := k0
    exact ⟨a0, k0, o0⟩
theorem Tryz.cellsCAgrs : Tryz.prog.cellsOf 34 = 1 := by kernel_rfl
theorem opensC_Agrs : Opens Tryz.prog 34 (rC (cSl 1 cAgr) (okSl okAgr)) := opens_sl Tryz.underlying34 Tryz.cellsCAgr (by decide) cAgr_len opensC_Agr
theorem Tryz.cellsCEst : Tryz.prog.cellsOf 36 = 5 := by kernel_rfl
def okEst (x : GEst) : Prop := okRat x.cash ∧ okSl okClaim x.claims ∧ okSl okAgr x.agrs
set_option maxRecDepth 100000 in
theorem opensC_Est : Opens Tryz.prog 36 (rC cEst okEst) := by
  refine opens_fields Tryz.underlying36 fun H enc W n cs hl hf => ?_
  rw [Tryz.cellsCEst] at hl
  match cs, hl with
  | [c0, c1, c2, c3, c4], _ =>
    obtain ⟨x0, h0⟩ := hf 0 _ 3 rfl Tryz.cellsRat
    obtain ⟨a0, k0, o0⟩ := opensC_rat H enc W _ _ _ h0
    replace k0 : denVs (kAll W) [c0, c1, c2] _ := k0
    obtain ⟨x1, h1⟩ := hf 1 _ 1 rfl Tryz.cellsCClaims
    obtain ⟨a1, k1, o1⟩ := opensC_Claims H enc W _ _ _ h1
    replace k1 : denVs (kAll W) [c3] _ := k1
    obtain ⟨x2, h2⟩ := hf 2 _ 1 rfl Tryz.cellsCAgrs
    obtain ⟨a2, k2, o2⟩ := opensC_Agrs H enc W _ _ _ h2
    replace k2 : denVs (kAll W) [c4] _ := k2
    exact ⟨⟨a0, a1, a2⟩, (denVs.append k0 (denVs.append k1 k2)), o0, o1, o2⟩
end Go.Proofs.YtmbahnmhicdjfaaGreatDoor
end
section
/- guarantee.Check; walked by the abstract machine. -/
namespace Go.Proofs.YtmbahnmhicdjfaaGreatDoor
open Go Go.RowKit
end Go.Proofs.YtmbahnmhicdjfaaGreatDoor
end
section
/- The reference: member, earlier; walked by the abstract machine. -/
namespace Go.Proofs.YtmbahnmhicdjfaaGreatDoor
open Go Go.RowKit
def mbT (c : Int) : List GPart → Bool
  | [] => false
  | p :: l => decide (p.claim = c) || mbT c l
def mbA (c : Int) : GAgr → Bool
  | [] => false
  | t :: a => mbT c t || mbA c a
def mbE (c : Int) : List GAgr → Bool
  | [] => false
  | a :: l => mbA c a || mbE c l
def F_rMem := And.intro zS (And.intro tf1 (And.intro tf6 (And.intro tf2 (And.intro tf0 (And.intro tf8 (And.intro tf9 (And.intro tf10 (And.intro tf3 (tf12)))))))))
set_option maxHeartbeats 4000000 in
theorem member_A (a : GAgr) (c : Int) (hn : a.length ≤ 1000000000000) (ht : ∀ t ∈ a, t.length ≤ 1000000000000) : ACall Tryz.prog 168 [.agg (cAgr a), .one (.lit (.int .i64 c))] (one (.bool (mbA c a))) := by
 refine acall_of Tryz.func168 rfl (by decide) (N := 35) rfl (by simp) (R := [.tmp 4]) rfl fun en k0 => ?_
 refine awR [] [none, none] ?_
 simp only [(id F_rMem), seval, cAgr]
 refine awR [] [none] ?_
 simp only [(id F_rMem), seval]
 refine awp_keep [1, 2, 5] [2] ?_
 simp only [Later, (id F_rMem), seval]
 repeat' first|apply awS|apply awB
 refine awp_loopw (fun n st => ∃ k nx, k ≤ a.length ∧ n = a.length - k ∧ mbA c (a.drop k) = mbA c a ∧ st = ⟨mkT [(1, one (.int .i64 c)), (2, .val (.one (.ptr 2 0 0))), (5, one (.int .i64 k))], mkH [(2, ⟨0, 50, 1, 1, cAgr a⟩)], nx, 0⟩) a.length ⟨0, _, by omega, by omega, rfl, rfl⟩ ?_
 rintro n st ⟨k, nx, hk, rfl, hL, rfl⟩
 by_cases hlt : k < a.length
 ·
  have hI : (k : Int) < (a.length : Int) := by omega
  have hat := flat_at cTier_len a k hlt
  rw [Nat.mul_one] at hat
  rw [List.drop_eq_getElem_cons hlt] at hL
  have htl := ht _ (List.getElem_mem hlt)
  generalize a[k] = t at *
  simp only [mbA] at hL
  refine awR [] [none, none, none, none, none] ?_
  simp only [(id F_rMem), seval, hI, cAgr]
  refine awT ?_
  refine awK ?_
  simp only [(id F_rMem), seval]
  refine awR [] [none] ?_
  simp only [(id F_rMem), seval]
  refine awp_keep [1, 2, 5, 6] [2] ?_
  simp only [Later, (id F_rMem), seval]
  repeat' first|apply awS|apply awB
  refine awp_loopw (fun n st => ∃ j nx, j ≤ t.length ∧ n = t.length - j ∧ mbT c (t.drop j) = mbT c t ∧ st = ⟨mkT [(1, one (.int .i64 c)), (2, .val (.one (.ptr 2 0 0))), (5, one (.int .i64 k)), (6, one (.int .i64 j))], mkH [(2, ⟨0, 50, 1, 1, cAgr a⟩)], nx, 0⟩) t.length ⟨0, _, by omega, by omega, rfl, rfl⟩ ?_
  rintro n2 st ⟨j, nx2, hj, rfl, hM, rfl⟩
  by_cases hjt : j < t.length
  ·
   have hJ : (j : Int) < (t.length : Int) := by omega
   have hat2 := flat_at cPart_len t j hjt
   rw [List.drop_eq_getElem_cons hjt] at hM
   generalize t[j] = p at *
   simp only [mbT] at hM
   by_cases hc : p.claim = c
   ·
    have hh : mbA c a = true := by rw [← hL, ← hM]; simp [hc]
    refine awR [] [none, none, none, none, none, none, none, none] ?_
    simp only [(id F_rMem), seval, hat, hJ, cAgr, cTier]
    repeat refine ob ?_
    refine awT ?_
    refine awK ?_
    simp only [(id F_rMem), seval]
    refine awR [] [none, none, none, none, none, none, none, none, none, none, none] ?_
    simp only [(id F_rMem), seval, hat, hat2, cAgr, cTier, cPart, hc]
    repeat refine ob ?_
    refine awT ?_
    refine awR [] [none] ?_
    simp only [(id F_rMem), seval]
    refine awX ?_
    simp only [(id F_rMem), seval, hh]
   refine awR [] [none, none, none, none, none, none, none, none] ?_
   simp only [(id F_rMem), seval, hat, hJ, cAgr, cTier]
   repeat refine ob ?_
   refine awT ?_
   refine awK ?_
   simp only [(id F_rMem), seval]
   refine awR [] [none, none, none, none, none, none, none, none, none, none, none] ?_
   simp only [(id F_rMem), seval, hat, hat2, cAgr, cTier, cPart, hc]
   repeat refine ob ?_
   refine awF ?_
   refine awK ?_
   simp only [(id F_rMem), seval]
   refine awR [] [none, none, none] ?_
   simp only [(id F_rMem), seval]
   repeat refine ob ?_
   refine ⟨_, wk_keep [1, 2, 5, 6] [2], t.length - (j + 1), by omega, j + 1, nx2, by omega, rfl, ?_, ?_⟩
   ·
    rw [← hM]; simp [hc]
   simp only [(id F_rMem), seval]
   try rfl
  obtain rfl : j = t.length := by omega
  have hJ : ¬ (t.length : Int) < (t.length : Int) := by omega
  rw [List.drop_length] at hM
  simp only [mbT] at hM
  refine awR [] [none, none, none, none, none, none, none, none] ?_
  simp only [(id F_rMem), seval, hat, hJ, cAgr, cTier]
  repeat refine ob ?_
  refine awF ?_
  refine awQ ?_
  simp only [(id F_rMem), seval]
  refine awR [] [none, none, none] ?_
  simp only [(id F_rMem), seval]
  repeat refine ob ?_
  refine ⟨_, wk_keep [1, 2, 5] [2], a.length - (k + 1), by omega, k + 1, nx2, by omega, rfl, ?_, ?_⟩
  ·
   rw [← hM] at hL; simpa using hL
  simp only [(id F_rMem), seval]
  try rfl
 obtain rfl : k = a.length := by omega
 have hI : ¬ (a.length : Int) < (a.length : Int) := by omega
 rw [List.drop_length] at hL
 simp only [mbA] at hL
 refine awR [] [none, none, none, none, none] ?_
 simp only [(id F_rMem), seval, hI, cAgr]
 refine awF ?_
 refine awQ ?_
 simp only [(id F_rMem), seval]
 refine awR [] [none] ?_
 simp only [(id F_rMem), seval]
 refine awX ?_
 simp only [(id F_rMem), seval, ← hL]
def F_rEar := And.intro zS (And.intro tf20 (And.intro tf23 (And.intro tf30 (And.intro tf31 (tf33)))))
set_option maxHeartbeats 4000000 in
theorem earlier_A (g : GEst) (i : Nat) (c : Int) (hi : i ≤ g.agrs.length) (hi2 : i ≤ 1000000000000) (ha : ∀ a ∈ g.agrs, a.length ≤ 1000000000000 ∧ ∀ t ∈ a, t.length ≤ 1000000000000) : ACall Tryz.prog 132 [.agg (cEst g), .one (.lit (.int .i64 i)), .one (.lit (.int .i64 c))] (one (.bool (mbE c (g.agrs.take i)))) := by
 refine acall_of Tryz.func132 rfl (by decide) (N := 20) rfl (by simp) (R := [.tmp 6]) rfl fun en k0 => ?_
 refine awR [] [none, none] ?_
 simp only [(id F_rEar), seval, cEst]
 refine awR [] [none] ?_
 simp only [(id F_rEar), seval]
 refine awp_keep [1, 2, 3, 7] [3] ?_
 simp only [Later, (id F_rEar), seval]
 repeat' first|apply awS|apply awB
 refine awp_loopw (fun n st => ∃ k nx, k ≤ i ∧ n = i - k ∧ mbE c ((g.agrs.take i).drop k) = mbE c (g.agrs.take i) ∧ st = ⟨mkT [(1, one (.int .i64 i)), (2, one (.int .i64 c)), (3, .val (.one (.ptr 3 0 0))), (7, one (.int .i64 k))], mkH [(3, ⟨0, 36, 5, 1, cEst g⟩)], nx, 0⟩) i ⟨0, _, by omega, by omega, rfl, rfl⟩ ?_
 rintro n st ⟨k, nx, hk, rfl, hL, rfl⟩
 by_cases hlt : k < i
 ·
  have hI : (k : Int) < (i : Int) := by omega
  have hlt2 : k < g.agrs.length := by omega
  have hlt3 : k < (g.agrs.take i).length := by simp; omega
  have hat := flat_at cAgr_len g.agrs k hlt2
  rw [Nat.mul_one] at hat
  rw [List.drop_eq_getElem_cons hlt3, List.getElem_take] at hL
  have hM := member_A g.agrs[k] c (ha _ (List.getElem_mem hlt2)).1 (ha _ (List.getElem_mem hlt2)).2
  generalize g.agrs[k] = a at *
  simp only [mbE] at hL
  cases hb : mbA c a
  ·
   rw [hb] at hM hL
   refine awR [] [none, none, none] ?_
   simp only [(id F_rEar), seval, hI]
   refine awT ?_
   refine awK ?_
   simp only [(id F_rEar), seval]
   refine awR [] [none, none, none, none, none, none, none] ?_
   simp only [(id F_rEar), seval, hat, cEst, cAgr, flat_pure cTier_pure]
   repeat refine ob ?_
   refine ⟨_, hM, rfl, ?_⟩
   simp only [Later, (id F_rEar), seval]
   refine awF ?_
   refine awK ?_
   simp only [(id F_rEar), seval]
   refine awR [] [none, none, none] ?_
   simp only [(id F_rEar), seval]
   repeat refine ob ?_
   refine ⟨_, wk_keep [1, 2, 3, 7] [3], i - (k + 1), by omega, k + 1, nx, by omega, rfl, ?_, ?_⟩
   ·
    simpa using hL
   simp only [(id F_rEar), seval]
   try rfl
  rw [hb] at hM hL
  have hh : mbE c (g.agrs.take i) = true := by rw [← hL]; simp
  refine awR [] [none, none, none] ?_
  simp only [(id F_rEar), seval, hI]
  refine awT ?_
  refine awK ?_
  simp only [(id F_rEar), seval]
  refine awR [] [none, none, none, none, none, none, none] ?_
  simp only [(id F_rEar), seval, hat, cEst, cAgr, flat_pure cTier_pure]
  repeat refine ob ?_
  refine ⟨_, hM, rfl, ?_⟩
  simp only [Later, (id F_rEar), seval]
  refine awT ?_
  refine awR [] [none] ?_
  simp only [(id F_rEar), seval]
  refine awX ?_
  simp only [(id F_rEar), seval, hh]
 obtain rfl : k = i := by omega
 have hI : ¬ (k : Int) < (k : Int) := by omega
 rw [List.drop_eq_nil_of_le (by simp; omega)] at hL
 simp only [mbE] at hL
 refine awR [] [none, none, none] ?_
 simp only [(id F_rEar), seval, hI]
 refine awF ?_
 refine awQ ?_
 simp only [(id F_rEar), seval]
 refine awR [] [none] ?_
 simp only [(id F_rEar), seval]
 refine awX ?_
 simp only [(id F_rEar), seval, ← hL]
end Go.Proofs.YtmbahnmhicdjfaaGreatDoor
end
