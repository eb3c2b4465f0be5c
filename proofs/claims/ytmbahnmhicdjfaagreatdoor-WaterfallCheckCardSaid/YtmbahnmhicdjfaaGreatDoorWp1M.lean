/- Plain: an estate's waterfall: tiers, ladders and what they pay; the sizes of the numbers. No walk. -/
import Derived.Test.YtmbahnmhicdjfaaGreatDoorWf6M
import Derived.Test.YtmbahnmhicdjfaaGreatDoorFewM
set_option linter.unusedVariables false
set_option linter.unusedSimpArgs false
set_option linter.defProp false
set_option linter.unnecessarySimpa false
section
/- Plain: an estate's waterfall: tiers, ladders and what they pay; the sizes of the numbers. No walk. -/
namespace Go.Proofs.YtmbahnmhicdjfaaGreatDoor
open Go Go.RowKit
abbrev WP := Int × Rat
abbrev WT := List WP
def wSum : WT → Rat
  | [] => 0
  | p :: t => p.2 + wSum t
theorem wSum_snoc : ∀ (t : WT) (p : WP), wSum (t ++ [p]) = wSum t + p.2
  | [], p => by simp only [List.nil_append, wSum]; grind
  | x :: t, p => by simp only [List.cons_append, wSum, wSum_snoc t p]; grind
def wSplit : List WT → Rat → Nat × Rat
  | [], m => (0, m)
  | t :: l, m => if m < wSum t then (0, m) else ((wSplit l (m - wSum t)).1 + 1, (wSplit l (m - wSum t)).2)
theorem wSplit_le : ∀ (l : List WT) (m : Rat), (wSplit l m).1 ≤ l.length
  | [], _ => Nat.le_refl _
  | t :: l, m => by
    simp only [wSplit]
    split
    · exact Nat.zero_le _
    have := wSplit_le l (m - wSum t)
    simpa using this
structure WR where
  cl : List Rat
  rv : Rat
def WR.add (R : WR) (c : Int) (a : Rat) : WR := if c = -1 then ⟨R.cl, R.rv + a⟩ else ⟨R.cl.set c.toNat (R.cl.getD c.toNat 0 + a), R.rv⟩
def wPut (q : Rat) : WT → WR → WR
  | [], R => R
  | p :: t, R => wPut q t (R.add p.1 (p.2 * q))
def wFull : WT → WR → WR
  | [], R => R
  | p :: t, R => wFull t (R.add p.1 p.2)
def wFulls : List WT → WR → WR
  | [], R => R
  | t :: l, R => wFulls l (wFull t R)
def wShare (l : List WT) (k : Nat) (a : Rat) (R : WR) : WR := if k < l.length then wPut (a / wSum (l.getD k [])) (l.getD k []) R else R
def wPay (l : List WT) (m : Rat) (R : WR) : WR := wShare l (wSplit l m).1 (wSplit l m).2 (wFulls (l.take (wSplit l m).1) R)
theorem wAdd_len (R : WR) (c : Int) (a : Rat) : (R.add c a).cl.length = R.cl.length := by
  unfold WR.add
  split <;> simp
theorem wPut_len (q : Rat) : ∀ (t : WT) (R : WR), (wPut q t R).cl.length = R.cl.length
  | [], _ => rfl
  | p :: t, R => by rw [wPut, wPut_len q t, wAdd_len]
theorem wFull_len : ∀ (t : WT) (R : WR), (wFull t R).cl.length = R.cl.length
  | [], _ => rfl
  | p :: t, R => by rw [wFull, wFull_len t, wAdd_len]
theorem wFulls_len : ∀ (l : List WT) (R : WR), (wFulls l R).cl.length = R.cl.length
  | [], _ => rfl
  | t :: l, R => by rw [wFulls, wFulls_len l, wFull_len]
theorem wShare_len (l : List WT) (k : Nat) (a : Rat) (R : WR) : (wShare l k a R).cl.length = R.cl.length := by
  unfold wShare
  split
  · exact wPut_len _ _ _
  rfl
theorem wPay_len (l : List WT) (m : Rat) (R : WR) : (wPay l m R).cl.length = R.cl.length := by
  unfold wPay
  rw [wShare_len, wFulls_len]
def wN : List WT → Nat
  | [] => 0
  | t :: l => t.length + wN l
theorem wN_app : ∀ (l m : List WT), wN (l ++ m) = wN l + wN m
  | [], m => by simp [wN]
  | t :: l, m => by simp only [List.cons_append, wN, wN_app l m]; omega
theorem wSum_qB {K : Nat} : ∀ (t : WT), (∀ p ∈ t, qB K p.2) → qB (1 + t.length * (K + 1)) (wSum t)
  | [], _ => by simpa [wSum] using qB_zero
  | p :: t, h => by
    have h1 := wSum_qB t fun x hx => h x (by simp [hx])
    have h2 := (h p (by simp)).add h1
    refine h2.mono ?_
    simp only [List.length_cons, Nat.add_mul, Nat.one_mul]
    omega
def WR.B (n : Nat) (R : WR) : Prop := (∀ x ∈ R.cl, qB n x) ∧ qB n R.rv
theorem WR.B.mono {m n : Nat} {R : WR} (h : R.B m) (hm : m ≤ n) : R.B n := ⟨fun x hx => (h.1 x hx).mono hm, h.2.mono hm⟩
theorem getD_qB {n : Nat} {l : List Rat} (h : ∀ x ∈ l, qB n x) (hn : 0 < n) (i : Nat) : qB n (l.getD i 0) := by
  rw [List.getD_eq_getElem?_getD]
  cases hx : l[i]? with
  | none => exact qB_zero.mono hn
  | some e => exact h e (List.mem_of_getElem? hx)
theorem WR.B.pos {n : Nat} {R : WR} (h : R.B n) : 0 < n := h.2.pos
theorem wAdd_B {n z : Nat} {R : WR} (h : R.B n) (c : Int) {a : Rat} (ha : qB z a) : (R.add c a).B (n + (z + 1)) := by
  unfold WR.add
  have h0 := h.pos
  split
  · exact ⟨fun x hx => (h.1 x hx).mono (by omega), (h.2.add ha).mono (by omega)⟩
  refine ⟨fun x hx => ?_, h.2.mono (by omega)⟩
  rcases List.mem_or_eq_of_mem_set hx with h1 | rfl
  · exact (h.1 x h1).mono (by omega)
  exact ((getD_qB h.1 h0 _).add ha).mono (by omega)
theorem wPut_B {z : Nat} (q : Rat) : ∀ (t : WT) (R : WR) (n : Nat), R.B n → (∀ p ∈ t, qB z (p.2 * q)) → (wPut q t R).B (n + t.length * (z + 1))
  | [], R, n, h, _ => by simpa [wPut] using h
  | p :: t, R, n, h, hz => by
    have h1 := wPut_B q t _ _ (wAdd_B h p.1 (hz p (by simp))) fun x hx => hz x (by simp [hx])
    refine h1.mono ?_
    simp only [List.length_cons, Nat.add_mul, Nat.one_mul]
    omega
theorem wFull_B {z : Nat} : ∀ (t : WT) (R : WR) (n : Nat), R.B n → (∀ p ∈ t, qB z p.2) → (wFull t R).B (n + t.length * (z + 1))
  | [], R, n, h, _ => by simpa [wFull] using h
  | p :: t, R, n, h, hz => by
    have h1 := wFull_B t _ _ (wAdd_B h p.1 (hz p (by simp))) fun x hx => hz x (by simp [hx])
    refine h1.mono ?_
    simp only [List.length_cons, Nat.add_mul, Nat.one_mul]
    omega
theorem wFulls_B {z : Nat} : ∀ (l : List WT) (R : WR) (n : Nat), R.B n → (∀ t ∈ l, ∀ p ∈ t, qB z p.2) → (wFulls l R).B (n + wN l * (z + 1))
  | [], R, n, h, _ => by simpa [wFulls, wN] using h
  | t :: l, R, n, h, hz => by
    have h1 := wFulls_B l _ _ (wFull_B t R n h (hz t (by simp))) fun x hx => hz x (by simp [hx])
    refine h1.mono ?_
    simp only [wN, Nat.add_mul, Nat.one_mul]
    omega
theorem wSplit_B {S : Nat} : ∀ (l : List WT) (m : Rat) (M : Nat), (∀ t ∈ l, qB S (wSum t)) → qB M m → qB (M + l.length * (S + 1)) (wSplit l m).2
  | [], m, M, _, h => by simpa [wSplit] using h
  | t :: l, m, M, hS, h => by
    simp only [wSplit]
    split
    · exact h.mono (by omega)
    have h1 := wSplit_B l (m - wSum t) (M + S + 1) (fun x hx => hS x (by simp [hx])) (h.sub (hS t (by simp)))
    refine h1.mono ?_
    simp only [List.length_cons, Nat.add_mul, Nat.one_mul]
    omega
theorem qB.inv {n : Nat} {q : Rat} (h : qB n q) : qB n q⁻¹ := by
  have hp := h.pos
  by_cases h0 : q = 0
  · subst h0
    rw [Rat.inv_zero]
    exact h
  have h1 : q⁻¹ = mkRat (sg (qNeg q) q.den) q.num.natAbs := by
    have h2 := qdiv_sg (p := 1) h0
    rw [Rat.div_def, Rat.one_mul] at h2
    rw [h2]
    have e1 : qNeg 1 = false := by unfold qNeg; simp
    rw [e1]
    simp
  rw [h1]
  refine qB_mkRat ?_ h.1 hp
  rw [sg_natAbs]
  exact h.2
theorem qB.div {m n : Nat} {p q : Rat} (hp : qB m p) (hq : qB n q) : qB (m + n) (p / q) := by
  rw [Rat.div_def]
  exact hp.mul hq.inv
def wOK (K S : Nat) (l : List WT) : Prop := l.length ≤ 1000 ∧ ∀ t ∈ l, t.length ≤ 1000 ∧ qB S (wSum t) ∧ ∀ p ∈ t, qB K p.2
theorem wN_at (l : List WT) (k : Nat) (h : k < l.length) : wN (l.take k) + (l[k]).length ≤ wN l := by
  have h1 := wN_app (l.take k) (l.drop k)
  rw [List.take_append_drop, List.drop_eq_getElem_cons h] at h1
  simp only [wN] at h1
  omega
theorem wPay_B {K S M n : Nat} {l : List WT} (h : wOK K S l) {m : Rat} (hm : qB M m) {R : WR} (hR : R.B n) : (wPay l m R).B (n + wN l * (K + (M + l.length * (S + 1)) + S + 1)) := by
  have h1 := wSplit_B l m M (fun t ht => (h.2 t ht).2.1) hm
  have h2 := wFulls_B (l.take (wSplit l m).1) R n hR fun t ht => (h.2 t (List.mem_of_mem_take ht)).2.2
  have h3 : wN (l.take (wSplit l m).1) ≤ wN l := by
    have := wN_app (l.take (wSplit l m).1) (l.drop (wSplit l m).1)
    rw [List.take_append_drop] at this
    omega
  unfold wPay wShare
  generalize hZ : K + (M + l.length * (S + 1)) + S = Z at *
  have h4 : wN (l.take (wSplit l m).1) * (K + 1) ≤ wN (l.take (wSplit l m).1) * (Z + 1) := Nat.mul_le_mul_left _ (by omega)
  split
  · rename_i hk
    have hN := wN_at l _ hk
    have hgd : l.getD (wSplit l m).1 [] = l[(wSplit l m).1] := by rw [List.getD_eq_getElem?_getD, List.getElem?_eq_getElem hk]; rfl
    have hmem : l.getD (wSplit l m).1 [] ∈ l := by rw [hgd]; exact List.getElem_mem hk
    rw [← hgd] at hN
    have h5 := h.2 _ hmem
    generalize l.getD (wSplit l m).1 [] = t at *
    have h6 := wPut_B (z := Z) ((wSplit l m).2 / wSum t) t _ _ h2 fun p hp => ((h5.2.2 p hp).mul (h1.div h5.2.1)).mono (by omega)
    have h7 : (wN (l.take (wSplit l m).1) + t.length) * (Z + 1) ≤ wN l * (Z + 1) := Nat.mul_le_mul_right _ hN
    rw [Nat.add_mul] at h7
    exact h6.mono (by omega)
  have h8 : wN (l.take (wSplit l m).1) * (Z + 1) ≤ wN l * (Z + 1) := Nat.mul_le_mul_right _ h3
  exact h2.mono (by omega)
end Go.Proofs.YtmbahnmhicdjfaaGreatDoor
end
section
/- Plain: an estate laid out: ranks, pools; what is delivered; the sizes of the numbers. No walk. -/
namespace Go.Proofs.YtmbahnmhicdjfaaGreatDoor
open Go Go.RowKit
noncomputable def wRk (r : Int) : List GClaim → Nat → WT
  | [], _ => []
  | c :: l, i => if c.rank = r then ((i : Int), qOf c.amount) :: wRk r l (i + 1) else wRk r l (i + 1)
noncomputable def wRanks (cs : List GClaim) : List WT := (List.range 8).map fun r : Nat => wRk (r : Int) cs 0
noncomputable def wTotal : List GClaim → Rat
  | [] => 0
  | c :: l => qOf c.amount + wTotal l
noncomputable def wPart (rest : List Rat) (x : GPart) : List Rat × Rat :=
  if x.claim = -1 then (rest, qOf x.cap) else
    (rest.set x.claim.toNat (rest.getD x.claim.toNat 0 - if x.capped = true then qmin (rest.getD x.claim.toNat 0) (qOf x.cap) else rest.getD x.claim.toNat 0),
      if x.capped = true then qmin (rest.getD x.claim.toNat 0) (qOf x.cap) else rest.getD x.claim.toNat 0)
noncomputable def wTier : List GPart → List Rat → List Rat × WT
  | [], rest => (rest, [])
  | x :: l, rest => ((wTier l (wPart rest x).1).1, (x.claim, (wPart rest x).2) :: (wTier l (wPart rest x).1).2)
noncomputable def wTiers : List (List GPart) → List Rat → List Rat × List WT
  | [], rest => (rest, [])
  | t :: a, rest => ((wTiers a (wTier t rest).1).1, (wTier t rest).2 :: (wTiers a (wTier t rest).1).2)
def wLast (M : List Int) (rest : List Rat) : WT := M.map fun i => (i, rest.getD i.toNat 0)
abbrev WPool := List Int × List WT
noncomputable def wPool (cs : List GClaim) (a : GAgr) : WPool :=
  (mem a, (wTiers a (cs.map fun c => qOf c.amount)).2 ++ [wLast (mem a) (wTiers a (cs.map fun c => qOf c.amount)).1])
structure WL where
  count : Nat
  ranks : List WT
  pools : List WPool
  total : Rat
noncomputable def wLay (e : GEst) : WL := ⟨e.claims.length, wRanks e.claims, e.agrs.map (wPool e.claims), wTotal e.claims⟩
def wGross (L : WL) (m : Rat) : List Rat := (wPay L.ranks m ⟨List.replicate L.count 0, 0⟩).cl
def wZero : List Int → List Rat → List Rat
  | [], l => l
  | i :: M, l => wZero M (l.set i.toNat 0)
def wTake : List WPool → List Rat → List Rat
  | [], l => l
  | p :: ps, l => wTake ps (wZero p.1 l)
def wTot (g : List Rat) : List Int → Rat
  | [] => 0
  | i :: M => g.getD i.toNat 0 + wTot g M
def wPools (g : List Rat) : List WPool → WR → WR
  | [], R => R
  | p :: ps, R => wPools g ps (wPay p.2 (wTot g p.1) R)
def wDel (L : WL) (m : Rat) : WR := wPools (wGross L m) L.pools ⟨wTake L.pools (wGross L m), 0⟩
theorem wZero_len : ∀ (M : List Int) (l : List Rat), (wZero M l).length = l.length
  | [], _ => rfl
  | i :: M, l => by rw [wZero, wZero_len M, List.length_set]
theorem wTake_len : ∀ (ps : List WPool) (l : List Rat), (wTake ps l).length = l.length
  | [], _ => rfl
  | p :: ps, l => by rw [wTake, wTake_len ps, wZero_len]
theorem wGross_len (L : WL) (m : Rat) : (wGross L m).length = L.count := by
  unfold wGross
  rw [wPay_len, List.length_replicate]
end Go.Proofs.YtmbahnmhicdjfaaGreatDoor
end
section
/- Plain: what a ladder pays, claim by claim and in all; it grows with the money. No walk. -/
namespace Go.Proofs.YtmbahnmhicdjfaaGreatDoor
open Go Go.RowKit
def WR.get (R : WR) (i : Int) : Rat := if i = -1 then R.rv else R.cl.getD i.toNat 0
def rSum : List Rat → Rat
  | [] => 0
  | x :: l => x + rSum l
def WR.all (R : WR) : Rat := rSum R.cl + R.rv
def inR (n : Nat) (c : Int) : Prop := c = -1 ∨ 0 ≤ c ∧ c < n
def wIn (n : Nat) (t : WT) : Prop := ∀ p ∈ t, inR n p.1
def wAt (i : Int) : WT → Rat
  | [] => 0
  | p :: t => (if p.1 = i then p.2 else 0) + wAt i t
def wAts (i : Int) : List WT → Rat
  | [] => 0
  | t :: l => wAt i t + wAts i l
theorem getD_set_self {l : List Rat} {k : Nat} (h : k < l.length) (x : Rat) : (l.set k x).getD k 0 = x := by
  rw [List.getD_eq_getElem?_getD, List.getElem?_set_self h]; rfl
theorem getD_set_ne {l : List Rat} {k j : Nat} (h : k ≠ j) (x : Rat) : (l.set k x).getD j 0 = l.getD j 0 := by
  rw [List.getD_eq_getElem?_getD, List.getElem?_set_ne h, ← List.getD_eq_getElem?_getD]
def wNN (l : List WT) : Prop := ∀ t ∈ l, ∀ p ∈ t, 0 ≤ p.2
end Go.Proofs.YtmbahnmhicdjfaaGreatDoor
end
section
/- Plain: what the ranks of an estate pay. No walk. -/
namespace Go.Proofs.YtmbahnmhicdjfaaGreatDoor
open Go Go.RowKit
theorem wRk_in (r : Int) : ∀ (cs : List GClaim) (s : Nat), ∀ p ∈ wRk r cs s, (s : Int) ≤ p.1 ∧ p.1 < ((s + cs.length : Nat) : Int) ∧ ∃ c ∈ cs, p.2 = qOf c.amount
  | [], _, p, h => by simp [wRk] at h
  | c :: cs, s, p, h => by
    have ih := wRk_in r cs (s + 1) p
    rw [wRk] at h
    simp only [List.length_cons]
    split at h
    · rcases List.mem_cons.1 h with rfl | h
      · exact ⟨by simp, by simp; omega, c, by simp, rfl⟩
      obtain ⟨h1, h2, d, h3, h4⟩ := ih h
      exact ⟨by omega, by omega, d, by simp [h3], h4⟩
    obtain ⟨h1, h2, d, h3, h4⟩ := ih h
    exact ⟨by omega, by omega, d, by simp [h3], h4⟩
theorem wRk_len (r : Int) : ∀ (cs : List GClaim) (s : Nat), (wRk r cs s).length ≤ cs.length
  | [], _ => Nat.le_refl _
  | c :: cs, s => by
    have := wRk_len r cs (s + 1)
    rw [wRk]
    split <;> simp only [List.length_cons] <;> omega
theorem wRanks_get (cs : List GClaim) (j : Nat) (h : j < (wRanks cs).length) : (wRanks cs)[j] = wRk (j : Int) cs 0 := by
  have h8 : j < 8 := by simpa [wRanks] using h
  have h1 : (wRanks cs)[j]? = some (wRk (j : Int) cs 0) := by
    unfold wRanks
    rw [List.getElem?_map, List.getElem?_range h8]; rfl
  exact (List.getElem?_eq_some_iff.1 h1).2
theorem wRanks_len (cs : List GClaim) : (wRanks cs).length = 8 := by simp [wRanks]
theorem wRanks_mem {cs : List GClaim} {t : WT} (h : t ∈ wRanks cs) : ∃ r : Nat, r < 8 ∧ t = wRk (r : Int) cs 0 := by
  unfold wRanks at h
  obtain ⟨r, h1, rfl⟩ := List.mem_map.1 h
  exact ⟨r, by simpa using h1, rfl⟩
theorem wRanks_in (cs : List GClaim) : ∀ t ∈ wRanks cs, wIn cs.length t := fun t h p hp => by
  obtain ⟨r, _, rfl⟩ := wRanks_mem h
  obtain ⟨h1, h2, _⟩ := wRk_in r cs 0 p hp
  exact .inr ⟨by omega, by omega⟩
structure wEst (cs : List GClaim) : Prop where
  am : ∀ c ∈ cs, 0 ≤ qOf c.amount
  rk : ∀ c ∈ cs, 0 ≤ c.rank ∧ c.rank ≤ 7
end Go.Proofs.YtmbahnmhicdjfaaGreatDoor
end
section
/- Plain: what the agreements of an estate pay. No walk. -/
namespace Go.Proofs.YtmbahnmhicdjfaaGreatDoor
open Go Go.RowKit
theorem cpt_sound {d : Array Int} : ∀ m, m ≤ d.size → (∀ i j (hi : i < d.size) (hj : j < d.size), i ≤ j → d[i] ≤ d[j]) →
    (Lib.compactUpTo d m).Nodup ∧ ∀ x ∈ Lib.compactUpTo d m, ∃ j, ∃ h : j < d.size, j < m ∧ x = d[j]
  | 0, _, _ => by simp [Lib.compactUpTo]
  | m + 1, hm, hs => by
    obtain ⟨h1, h2⟩ := cpt_sound m (by omega) hs
    have hlt : m < d.size := by omega
    rw [Lib.compactUpTo_succ]
    by_cases hk : Lib.keeps d m = true
    · rw [if_pos hk]
      have hg : d[m]! = d[m] := getElem!_pos d m hlt
      constructor
      · rw [List.nodup_append]
        refine ⟨h1, by simp, ?_⟩
        intro a ha b hb
        obtain ⟨j, hj, hjm, rfl⟩ := h2 a ha
        simp only [List.mem_singleton] at hb
        subst hb
        rw [hg]
        have h3 : d[m - 1]! ≠ d[m]! := by
          unfold Lib.keeps at hk
          rcases Nat.eq_zero_or_pos m with h0 | h0
          · omega
          intro h
          simp [h] at hk
          omega
        rw [hg, getElem!_pos d (m - 1) (by omega)] at h3
        have h4 := hs j (m - 1) hj (by omega) (by omega)
        have h5 := hs (m - 1) m (by omega) hlt (by omega)
        omega
      intro x hx
      rcases List.mem_append.1 hx with hx | hx
      · obtain ⟨j, hj, hjm, rfl⟩ := h2 x hx
        exact ⟨j, hj, by omega, rfl⟩
      simp only [List.mem_singleton] at hx
      subst hx
      exact ⟨m, hlt, by omega, hg⟩
    rw [if_neg hk, List.append_nil]
    exact ⟨h1, fun x hx => by obtain ⟨j, hj, hjm, e⟩ := h2 x hx; exact ⟨j, hj, by omega, e⟩⟩
theorem cpt_all {d : Array Int} : ∀ m, m ≤ d.size → ∀ j (h : j < d.size), j < m → d[j] ∈ Lib.compactUpTo d m
  | 0, _, _, _, h => absurd h (by omega)
  | m + 1, hm, j, hj, hjm => by
    have hlt : m < d.size := by omega
    rw [Lib.compactUpTo_succ]
    by_cases hjm' : j < m
    · exact List.mem_append_left _ (cpt_all m (by omega) j hj hjm')
    have : j = m := by omega
    subst this
    by_cases hk : Lib.keeps d j = true
    · rw [if_pos hk, getElem!_pos d j hlt]
      exact List.mem_append_right _ (by simp)
    rw [if_neg hk, List.append_nil]
    have h3 : j ≠ 0 ∧ d[j - 1]! = d[j]! := by
      unfold Lib.keeps at hk
      rcases Nat.eq_zero_or_pos j with h0 | h0
      · subst h0; simp at hk
      refine ⟨by omega, ?_⟩
      have h9 : ¬ j = 0 := by omega
      have h8 : ¬ ¬ d[j]! = d[j - 1]! := fun h => hk (by simp [h9, h])
      exact (Classical.not_not.1 h8).symm
    rw [getElem!_pos d j hlt, getElem!_pos d (j - 1) (by omega)] at h3
    rw [← h3.2]
    exact cpt_all j (by omega) (j - 1) (by omega) (by omega)
theorem sorted_mono (zs : List Int) : ∀ i j (hi : i < (sorted zs).toArray.size) (hj : j < (sorted zs).toArray.size), i ≤ j → (sorted zs).toArray[i] ≤ (sorted zs).toArray[j] := fun i j hi hj hij => by
  have h1 : (sorted zs).Pairwise fun x y => decide (x ≤ y) = true := by
    unfold sorted
    exact List.pairwise_mergeSort (fun a b c h1 h2 => by simp at *; omega) (fun a b => by simp; omega) zs
  rcases Nat.lt_or_eq_of_le hij with h | rfl
  · have := List.pairwise_iff_getElem.1 h1 i j (by simpa using hi) (by simpa using hj) h
    simpa using this
  exact Int.le_refl _
theorem mem_nodup (a : GAgr) : (mem a).Nodup := (cpt_sound _ (by simp) (sorted_mono _)).1
theorem ids_mem : ∀ {l : List GPart} {p : GPart}, p ∈ l → p.claim ≠ -1 → p.claim ∈ idsOf l
  | q :: l, p, h, hc => by
    simp only [idsOf]
    rcases List.mem_cons.1 h with rfl | h
    · rw [if_neg hc]; simp
    have := ids_mem h hc
    split
    · exact this
    exact List.mem_cons_of_mem _ this
theorem mem_of {a : GAgr} {p : GPart} (h : p ∈ a.flatten) (hc : p.claim ≠ -1) : p.claim ∈ mem a := by
  have h1 : p.claim ∈ sorted (idsOf a.flatten) := by
    unfold sorted
    rw [List.mem_mergeSort]
    exact ids_mem h hc
  obtain ⟨j, hj, he⟩ := List.getElem_of_mem h1
  have h2 := cpt_all (d := (sorted (idsOf a.flatten)).toArray) (sorted (idsOf a.flatten)).length (by simp) j (by simpa using hj) hj
  unfold mem Lib.compact
  rw [← he]
  simpa using h2
theorem wAts_app (i : Int) : ∀ (l m : List WT), wAts i (l ++ m) = wAts i l + wAts i m
  | [], m => by simp only [List.nil_append, wAts]; grind
  | t :: l, m => by simp only [List.cons_append, wAts, wAts_app i l m]; grind
def pOK (n : Nat) (x : GPart) : Prop := inR n x.claim ∧ (x.claim = -1 ∨ x.capped = true → 0 ≤ qOf x.cap)
def rNN (l : List Rat) : Prop := ∀ x ∈ l, 0 ≤ x
theorem getD_nn {l : List Rat} (h : rNN l) (i : Nat) : 0 ≤ l.getD i 0 := by
  rw [List.getD_eq_getElem?_getD]
  cases hx : l[i]? with
  | none => simp
  | some e => exact h e (List.mem_of_getElem? hx)
theorem wPart_ok {n : Nat} {rest : List Rat} {x : GPart} (hx : pOK n x) (hn : rest.length = n) (hr : rNN rest) :
    (wPart rest x).1.length = n ∧ rNN (wPart rest x).1 ∧ 0 ≤ (wPart rest x).2 ∧ ∀ i : Nat, (wPart rest x).1.getD i 0 + (if x.claim = (i : Int) then (wPart rest x).2 else 0) = rest.getD i 0 := by
  unfold wPart
  by_cases h1 : x.claim = -1
  · simp only [h1, if_true]
    refine ⟨hn, hr, hx.2 (.inl h1), fun i => ?_⟩
    have h2 : ¬ ((-1 : Int) = (i : Int)) := by omega
    rw [if_neg h2]; grind
  simp only [h1, if_false]
  rcases hx.1 with h | ⟨h2, h3⟩
  · exact absurd h h1
  have h4 := getD_nn hr x.claim.toNat
  have h5 : 0 ≤ (if x.capped = true then qmin (rest.getD x.claim.toNat 0) (qOf x.cap) else rest.getD x.claim.toNat 0) ∧ (if x.capped = true then qmin (rest.getD x.claim.toNat 0) (qOf x.cap) else rest.getD x.claim.toNat 0) ≤ rest.getD x.claim.toNat 0 := by
    by_cases hc : x.capped = true
    · have h6 := hx.2 (.inr hc)
      rw [if_pos hc]
      unfold qmin
      split <;> grind
    rw [if_neg hc]; grind
  generalize (if x.capped = true then qmin (rest.getD x.claim.toNat 0) (qOf x.cap) else rest.getD x.claim.toNat 0) = c at *
  refine ⟨by rw [List.length_set]; exact hn, fun y hy => ?_, h5.1, fun i => ?_⟩
  · rcases List.mem_or_eq_of_mem_set hy with hy | rfl
    · exact hr y hy
    grind
  by_cases h6 : x.claim = (i : Int)
  · have h7 : x.claim.toNat = i := by omega
    rw [if_pos h6, h7, getD_set_self (by omega)]; grind
  have h7 : x.claim.toNat ≠ i := by omega
  rw [if_neg h6, getD_set_ne h7]; grind
theorem wTier_ok {n : Nat} : ∀ (t : List GPart) (rest : List Rat), (∀ x ∈ t, pOK n x) → rest.length = n → rNN rest →
    (wTier t rest).1.length = n ∧ rNN (wTier t rest).1 ∧ (∀ p ∈ (wTier t rest).2, 0 ≤ p.2) ∧ (∀ i : Nat, (wTier t rest).1.getD i 0 + wAt (i : Int) (wTier t rest).2 = rest.getD i 0) ∧ (wTier t rest).2.map (·.1) = t.map (·.claim)
  | [], rest, _, hn, hr => ⟨hn, hr, by simp [wTier], fun i => by simp only [wTier, wAt]; grind, rfl⟩
  | x :: t, rest, h, hn, hr => by
    obtain ⟨a1, a2, a3, a4⟩ := wPart_ok (h x (by simp)) hn hr
    obtain ⟨b1, b2, b3, b4, b5⟩ := wTier_ok t (wPart rest x).1 (fun y hy => h y (by simp [hy])) a1 a2
    refine ⟨b1, b2, fun p hp => ?_, fun i => ?_, ?_⟩
    · simp only [wTier] at hp
      rcases List.mem_cons.1 hp with rfl | hp
      · exact a3
      exact b3 p hp
    · have h1 := a4 i
      have h2 := b4 i
      simp only [wTier, wAt]
      grind
    simp only [wTier, List.map_cons, b5]
theorem wTiers_ok {n : Nat} : ∀ (a : List (List GPart)) (rest : List Rat), (∀ t ∈ a, ∀ x ∈ t, pOK n x) → rest.length = n → rNN rest →
    (wTiers a rest).1.length = n ∧ rNN (wTiers a rest).1 ∧ wNN (wTiers a rest).2 ∧ (∀ i : Nat, (wTiers a rest).1.getD i 0 + wAts (i : Int) (wTiers a rest).2 = rest.getD i 0) ∧ (wTiers a rest).2.map (fun t => t.map (·.1)) = a.map fun t => t.map (·.claim)
  | [], rest, _, hn, hr => ⟨hn, hr, by simp [wTiers, wNN], fun i => by simp only [wTiers, wAts]; grind, rfl⟩
  | t :: a, rest, h, hn, hr => by
    obtain ⟨a1, a2, a3, a4, a5⟩ := wTier_ok t rest (h t (by simp)) hn hr
    obtain ⟨b1, b2, b3, b4, b5⟩ := wTiers_ok a (wTier t rest).1 (fun y hy => h y (by simp [hy])) a1 a2
    refine ⟨b1, b2, fun u hu => ?_, fun i => ?_, ?_⟩
    · simp only [wTiers] at hu
      rcases List.mem_cons.1 hu with rfl | hu
      · exact a3
      exact b3 u hu
    · have h1 := a4 i
      have h2 := b4 i
      simp only [wTiers, wAts]
      grind
    simp only [wTiers, List.map_cons, a5, b5]
theorem wLast_at (rest : List Rat) : ∀ (M : List Int) (i : Int), M.Nodup → wAt i (wLast M rest) = if i ∈ M then rest.getD i.toNat 0 else 0
  | [], i, _ => by simp [wLast, wAt]
  | j :: M, i, h => by
    have h1 := wLast_at rest M i (List.nodup_cons.1 h).2
    have h2 := (List.nodup_cons.1 h).1
    simp only [wLast, List.map_cons, wAt] at h1 ⊢
    rw [h1]
    by_cases h3 : j = i
    · subst h3
      rw [if_pos rfl, if_neg h2, if_pos (by simp)]; grind
    have h4 : i ∈ j :: M ↔ i ∈ M := by simp [Ne.symm h3]
    rw [if_neg h3]
    simp only [h4]
    grind
structure pLad (cs : List GClaim) (p : WPool) : Prop where
  nd : p.1.Nodup
  inn : ∀ i ∈ p.1, 0 ≤ i ∧ i < (cs.length : Int)
  nn : wNN p.2
  rin : ∀ t ∈ p.2, ∀ x ∈ t, x.1 = -1 ∨ x.1 ∈ p.1
  cap : ∀ i : Nat, (i : Int) ∈ p.1 → wAts (i : Int) p.2 = (cs.map fun c => qOf c.amount).getD i 0
def aOK (n : Nat) (a : GAgr) : Prop := ∀ t ∈ a, ∀ x ∈ t, pOK n x
theorem wPool_ok {cs : List GClaim} {a : GAgr} (ha : aOK cs.length a) (hc : ∀ c ∈ cs, 0 ≤ qOf c.amount) : pLad cs (wPool cs a) := by
  have hr : rNN (cs.map fun c => qOf c.amount) := fun x hx => by
    obtain ⟨c, h1, rfl⟩ := List.mem_map.1 hx
    exact hc c h1
  obtain ⟨b1, b2, b3, b4, b5⟩ := wTiers_ok a (cs.map fun c => qOf c.amount) ha (by simp) hr
  have hin : ∀ i ∈ mem a, 0 ≤ i ∧ i < (cs.length : Int) := fun i hi => by
    obtain ⟨p, h1, h2, h3⟩ := mem_ids (mem_mem hi)
    obtain ⟨t, ht, hp⟩ := List.mem_flatten.1 h1
    rcases (ha t ht p hp).1 with h | h
    · exact absurd h h3
    rw [← h2]; exact h
  refine ⟨mem_nodup a, hin, fun t ht p hp => ?_, fun t ht p hp => ?_, fun i hi => ?_⟩
  · rcases List.mem_append.1 ht with ht | ht
    · exact b3 t ht p hp
    simp only [List.mem_singleton] at ht
    subst ht
    obtain ⟨j, _, rfl⟩ := List.mem_map.1 hp
    exact getD_nn b2 _
  · rcases List.mem_append.1 ht with ht | ht
    · have h1 : t.map (·.1) ∈ (wTiers a (cs.map fun c => qOf c.amount)).2.map (fun t => t.map (·.1)) := List.mem_map.2 ⟨t, ht, rfl⟩
      rw [b5] at h1
      obtain ⟨u, hu, he⟩ := List.mem_map.1 h1
      have h2 : p.1 ∈ u.map (·.claim) := by rw [he]; exact List.mem_map.2 ⟨p, hp, rfl⟩
      obtain ⟨x, hx, hxe⟩ := List.mem_map.1 h2
      by_cases h3 : x.claim = -1
      · exact .inl (by rw [← hxe]; exact h3)
      exact .inr (by rw [← hxe]; exact mem_of (List.mem_flatten.2 ⟨u, hu, hx⟩) h3)
    simp only [List.mem_singleton] at ht
    subst ht
    obtain ⟨j, hj, rfl⟩ := List.mem_map.1 hp
    exact .inr hj
  have h1 := b4 i
  show wAts (i : Int) ((wTiers a _).2 ++ [wLast (mem a) (wTiers a _).1]) = _
  rw [wAts_app]
  have hi' : (i : Int) ∈ mem a := hi
  simp only [wAts, wLast_at _ _ _ (mem_nodup a), hi', if_true, Int.toNat_natCast]
  grind
end Go.Proofs.YtmbahnmhicdjfaaGreatDoor
end
