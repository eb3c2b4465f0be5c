/- Few: what is short enough for a law; walked by the abstract machine. -/
import Derived.Test.YtokmkopihhnggaaGreatDoorWf6M
import Derived.Test.YtokmkopihhnggaaGreatDoorRw6M
import Derived.Test.YtokmkopihhnggaaGreatDoorVal2M
import Derived.Test.YtokmkopihhnggaaGreatDoorNat18M
set_option linter.unusedVariables false
set_option linter.unusedSimpArgs false
namespace Go.Proofs.YtokmkopihhnggaaGreatDoor
open Go Go.RowKit

theorem aAdd (r1 r2 : GRat) (m n : Nat) (h1 : sB m r1) (h2 : sB n r2) (hm : m ≤ 100000000000) (hn : n ≤ 100000000000) (hm0 : 0 < m) (hn0 : 0 < n) : ACall Tryz.prog 31 [.agg (cRat r1), .agg (cRat r2)] (.val (.agg (cRat (enc (qOf r1 + qOf r2))))) :=
 acall_flat (fnOK_of Tryz.func31 (by decide) (by kernel_rfl)) [vRat r1, vRat r2] (vRat (enc (qOf r1 + qOf r2))) fun w => qAdd_any r1 r2 m n w h1 h2 hm hn hm0 hn0
theorem aSub (r1 r2 : GRat) (m n : Nat) (h1 : sB m r1) (h2 : sB n r2) (hm : m ≤ 100000000000) (hn : n ≤ 100000000000) (hm0 : 0 < m) (hn0 : 0 < n) : ACall Tryz.prog 39 [.agg (cRat r1), .agg (cRat r2)] (.val (.agg (cRat (enc (qOf r1 - qOf r2))))) :=
 acall_flat (fnOK_of Tryz.func39 (by decide) (by kernel_rfl)) [vRat r1, vRat r2] (vRat (enc (qOf r1 - qOf r2))) fun w => qSubtract_any r1 r2 m n w h1 h2 hm hn hm0 hn0
theorem aMul (r1 r2 : GRat) (m n : Nat) (h1 : sB m r1) (h2 : sB n r2) (hm : m ≤ 100000000000) (hn : n ≤ 100000000000) (hm0 : 0 < m) (hn0 : 0 < n) : ACall Tryz.prog 38 [.agg (cRat r1), .agg (cRat r2)] (.val (.agg (cRat (enc (qOf r1 * qOf r2))))) :=
 acall_flat (fnOK_of Tryz.func38 (by decide) (by kernel_rfl)) [vRat r1, vRat r2] (vRat (enc (qOf r1 * qOf r2))) fun w => qMultiply_any r1 r2 m n w h1 h2 hm hn hm0 hn0
theorem aMin (r1 r2 : GRat) (m n : Nat) (h1 : sB m r1) (h2 : sB n r2) (hm : m ≤ 100000000000) (hn : n ≤ 100000000000) (hm0 : 0 < m) (hn0 : 0 < n) : ACall Tryz.prog 36 [.agg (cRat r1), .agg (cRat r2)] (.val (.agg (cRat (enc (qmin (qOf r1) (qOf r2)))))) :=
 acall_flat (fnOK_of Tryz.func36 (by decide) (by kernel_rfl)) [vRat r1, vRat r2] (vRat (enc (qmin (qOf r1) (qOf r2)))) fun w => qMin_any r1 r2 m n w h1 h2 hm hn hm0 hn0
theorem aMax (r1 r2 : GRat) (m n : Nat) (h1 : sB m r1) (h2 : sB n r2) (hm : m ≤ 100000000000) (hn : n ≤ 100000000000) (hm0 : 0 < m) (hn0 : 0 < n) : ACall Tryz.prog 133 [.agg (cRat r1), .agg (cRat r2)] (.val (.agg (cRat (enc (qmax (qOf r1) (qOf r2)))))) :=
 acall_flat (fnOK_of Tryz.func133 (by decide) (by kernel_rfl)) [vRat r1, vRat r2] (vRat (enc (qmax (qOf r1) (qOf r2)))) fun w => qMax_any r1 r2 m n w h1 h2 hm hn hm0 hn0
theorem aInt (n : Int) (h0 : -9223372036854775808 ≤ n) (h1 : n ≤ 9223372036854775807) : ACall Tryz.prog 52 [.one (.lit (.int .i64 n))] (.val (.agg (cRat (enc (n : Rat))))) :=
 acall_flat (fnOK_of Tryz.func52 (by decide) (by kernel_rfl)) [.int .i64 n] (vRat (enc (n : Rat))) fun w => qInt_any n w h0 h1
abbrev WP := Int × Rat
abbrev WT := List WP
def wSum : WT → Rat
 | [] => 0
 | p :: t => p.2 + wSum t
theorem wSum_snoc : ∀ (t : WT) (p : WP), wSum (t ++ [p]) = wSum t + p.2
 | [], p => by simp only [List.nil_append, wSum]; grind
 | x :: t, p => by simp only [List.cons_append, wSum, wSum_snoc t p]; grind
def wSplit : List WT → Rat → Nat × Rat
 | [], m => (0, m)
 | t :: l, m => if m < wSum t then (0, m) else ((wSplit l (m - wSum t)).1 + 1, (wSplit l (m - wSum t)).2)
theorem wSplit_le : ∀ (l : List WT) (m : Rat), (wSplit l m).1 ≤ l.length
 | [], _ => Nat.le_refl _
 | t :: l, m => by
  simp only [wSplit]
  split
  ·exact Nat.zero_le _
  have := wSplit_le l (m - wSum t)
  simpa using this
theorem wSplit_pos : ∀ (l : List WT) (m : Rat), 0 ≤ m → 0 ≤ (wSplit l m).2 ∧ ∀ h : (wSplit l m).1 < l.length, (wSplit l m).2 < wSum l[(wSplit l m).1]
 | [], m, h => ⟨h, fun h => absurd h (by simp)⟩
 | t :: l, m, h => by
  by_cases hm : m < wSum t
  ·simp only [wSplit, hm, if_true]
   exact ⟨h, fun _ => hm⟩
  have h1 := wSplit_pos l (m - wSum t) (by grind)
  simp only [wSplit, hm, if_false]
  refine ⟨h1.1, fun h2 => ?_⟩
  have h3 := h1.2 (by simpa using h2)
  simpa using h3
structure WR where
 cl : List Rat
 rv : Rat
def WR.add (R : WR) (c : Int) (a : Rat) : WR := if c = -1 then ⟨R.cl, R.rv + a⟩ else ⟨R.cl.set c.toNat (R.cl.getD c.toNat 0 + a), R.rv⟩
def wPut (q : Rat) : WT → WR → WR
 | [], R => R
 | p :: t, R => wPut q t (R.add p.1 (p.2 * q))
def wFull : WT → WR → WR
 | [], R => R
 | p :: t, R => wFull t (R.add p.1 p.2)
def wFulls : List WT → WR → WR
 | [], R => R
 | t :: l, R => wFulls l (wFull t R)
def wShare (l : List WT) (k : Nat) (a : Rat) (R : WR) : WR := if k < l.length then wPut (a / wSum (l.getD k [])) (l.getD k []) R else R
def wPay (l : List WT) (m : Rat) (R : WR) : WR := wShare l (wSplit l m).1 (wSplit l m).2 (wFulls (l.take (wSplit l m).1) R)
theorem wAdd_len (R : WR) (c : Int) (a : Rat) : (R.add c a).cl.length = R.cl.length := by
 unfold WR.add
 split <;> simp
theorem wPut_len (q : Rat) : ∀ (t : WT) (R : WR), (wPut q t R).cl.length = R.cl.length
 | [], _ => rfl
 | p :: t, R => by rw [wPut, wPut_len q t, wAdd_len]
theorem wFull_len : ∀ (t : WT) (R : WR), (wFull t R).cl.length = R.cl.length
 | [], _ => rfl
 | p :: t, R => by rw [wFull, wFull_len t, wAdd_len]
theorem wFulls_len : ∀ (l : List WT) (R : WR), (wFulls l R).cl.length = R.cl.length
 | [], _ => rfl
 | t :: l, R => by rw [wFulls, wFulls_len l, wFull_len]
theorem wShare_len (l : List WT) (k : Nat) (a : Rat) (R : WR) : (wShare l k a R).cl.length = R.cl.length := by
 unfold wShare
 split
 ·exact wPut_len _ _ _
 rfl
theorem wPay_len (l : List WT) (m : Rat) (R : WR) : (wPay l m R).cl.length = R.cl.length := by
 unfold wPay
 rw [wShare_len, wFulls_len]
def wN : List WT → Nat
 | [] => 0
 | t :: l => t.length + wN l
theorem wN_app : ∀ (l m : List WT), wN (l ++ m) = wN l + wN m
 | [], m => by simp [wN]
 | t :: l, m => by simp only [List.cons_append, wN, wN_app l m]; omega
theorem wSum_qB {K : Nat} : ∀ (t : WT), (∀ p ∈ t, qB K p.2) → qB (1 + t.length * (K + 1)) (wSum t)
 | [], _ => by simpa [wSum] using qB_zero
 | p :: t, h => by
  have h1 := wSum_qB t fun x hx => h x (by simp [hx])
  have h2 := (h p (by simp)).add h1
  refine h2.mono ?_
  simp only [List.length_cons, Nat.add_mul, Nat.one_mul]
  omega
def WR.B (n : Nat) (R : WR) : Prop := (∀ x ∈ R.cl, qB n x) ∧ qB n R.rv
theorem WR.B.mono {m n : Nat} {R : WR} (h : R.B m) (hm : m ≤ n) : R.B n := ⟨fun x hx => (h.1 x hx).mono hm, h.2.mono hm⟩
theorem getD_qB {n : Nat} {l : List Rat} (h : ∀ x ∈ l, qB n x) (hn : 0 < n) (i : Nat) : qB n (l.getD i 0) := by
 rw [List.getD_eq_getElem?_getD]
 cases hx : l[i]? with
 | none => exact qB_zero.mono hn
 | some e => exact h e (List.mem_of_getElem? hx)
theorem WR.B.pos {n : Nat} {R : WR} (h : R.B n) : 0 < n := h.2.pos
theorem wAdd_B {n z : Nat} {R : WR} (h : R.B n) (c : Int) {a : Rat} (ha : qB z a) : (R.add c a).B (n + (z + 1)) := by
 unfold WR.add
 have h0 := h.pos
 split
 ·exact ⟨fun x hx => (h.1 x hx).mono (by omega), (h.2.add ha).mono (by omega)⟩
 refine ⟨fun x hx => ?_, h.2.mono (by omega)⟩
 rcases List.mem_or_eq_of_mem_set hx with h1 | rfl
 ·exact (h.1 x h1).mono (by omega)
 exact ((getD_qB h.1 h0 _).add ha).mono (by omega)
theorem wPut_B {z : Nat} (q : Rat) : ∀ (t : WT) (R : WR) (n : Nat), R.B n → (∀ p ∈ t, qB z (p.2 * q)) → (wPut q t R).B (n + t.length * (z + 1))
 | [], R, n, h, _ => by simpa [wPut] using h
 | p :: t, R, n, h, hz => by
  have h1 := wPut_B q t _ _ (wAdd_B h p.1 (hz p (by simp))) fun x hx => hz x (by simp [hx])
  refine h1.mono ?_
  simp only [List.length_cons, Nat.add_mul, Nat.one_mul]
  omega
theorem wFull_B {z : Nat} : ∀ (t : WT) (R : WR) (n : Nat), R.B n → (∀ p ∈ t, qB z p.2) → (wFull t R).B (n + t.length * (z + 1))
 | [], R, n, h, _ => by simpa [wFull] using h
 | p :: t, R, n, h, hz => by
  have h1 := wFull_B t _ _ (wAdd_B h p.1 (hz p (by simp))) fun x hx => hz x (by simp [hx])
  refine h1.mono ?_
  simp only [List.length_cons, Nat.add_mul, Nat.one_mul]
  omega
theorem wFulls_B {z : Nat} : ∀ (l : List WT) (R : WR) (n : Nat), R.B n → (∀ t ∈ l, ∀ p ∈ t, qB z p.2) → (wFulls l R).B (n + wN l * (z + 1))
 | [], R, n, h, _ => by simpa [wFulls, wN] using h
 | t :: l, R, n, h, hz => by
  have h1 := wFulls_B l _ _ (wFull_B t R n h (hz t (by simp))) fun x hx => hz x (by simp [hx])
  refine h1.mono ?_
  simp only [wN, Nat.add_mul, Nat.one_mul]
  omega
theorem wSplit_B {S : Nat} : ∀ (l : List WT) (m : Rat) (M : Nat), (∀ t ∈ l, qB S (wSum t)) → qB M m → qB (M + l.length * (S + 1)) (wSplit l m).2
 | [], m, M, _, h => by simpa [wSplit] using h
 | t :: l, m, M, hS, h => by
  simp only [wSplit]
  split
  ·exact h.mono (by omega)
  have h1 := wSplit_B l (m - wSum t) (M + S + 1) (fun x hx => hS x (by simp [hx])) (h.sub (hS t (by simp)))
  refine h1.mono ?_
  simp only [List.length_cons, Nat.add_mul, Nat.one_mul]
  omega
theorem qB.inv {n : Nat} {q : Rat} (h : qB n q) : qB n q⁻¹ := by
 have hp := h.pos
 by_cases h0 : q = 0
 ·subst h0
  rw [Rat.inv_zero]
  exact h
 have h1 : q⁻¹ = mkRat (sg (qNeg q) q.den) q.num.natAbs := by
  have h2 := qdiv_sg (p := 1) h0
  rw [Rat.div_def, Rat.one_mul] at h2
  rw [h2]
  have e1 : qNeg 1 = false := by unfold qNeg; simp
  rw [e1]
  simp
 rw [h1]
 refine qB_mkRat ?_ h.1 hp
 rw [sg_natAbs]
 exact h.2
theorem qB.div {m n : Nat} {p q : Rat} (hp : qB m p) (hq : qB n q) : qB (m + n) (p / q) := by
 rw [Rat.div_def]
 exact hp.mul hq.inv
def wOK (K S : Nat) (l : List WT) : Prop := l.length ≤ 1000 ∧ ∀ t ∈ l, t.length ≤ 1000 ∧ qB S (wSum t) ∧ ∀ p ∈ t, qB K p.2
theorem wN_at (l : List WT) (k : Nat) (h : k < l.length) : wN (l.take k) + (l[k]).length ≤ wN l := by
 have h1 := wN_app (l.take k) (l.drop k)
 rw [List.take_append_drop, List.drop_eq_getElem_cons h] at h1
 simp only [wN] at h1
 omega
theorem wPay_B {K S M n : Nat} {l : List WT} (h : wOK K S l) {m : Rat} (hm : qB M m) {R : WR} (hR : R.B n) : (wPay l m R).B (n + wN l * (K + (M + l.length * (S + 1)) + S + 1)) := by
 have h1 := wSplit_B l m M (fun t ht => (h.2 t ht).2.1) hm
 have h2 := wFulls_B (l.take (wSplit l m).1) R n hR fun t ht => (h.2 t (List.mem_of_mem_take ht)).2.2
 have h3 : wN (l.take (wSplit l m).1) ≤ wN l := by
  have := wN_app (l.take (wSplit l m).1) (l.drop (wSplit l m).1)
  rw [List.take_append_drop] at this
  omega
 unfold wPay wShare
 generalize hZ : K + (M + l.length * (S + 1)) + S = Z at *
 have h4 : wN (l.take (wSplit l m).1) * (K + 1) ≤ wN (l.take (wSplit l m).1) * (Z + 1) := Nat.mul_le_mul_left _ (by omega)
 split
 ·rename_i hk
  have hN := wN_at l _ hk
  have hgd : l.getD (wSplit l m).1 [] = l[(wSplit l m).1] := by rw [List.getD_eq_getElem?_getD, List.getElem?_eq_getElem hk]; rfl
  have hmem : l.getD (wSplit l m).1 [] ∈ l := by rw [hgd]; exact List.getElem_mem hk
  rw [← hgd] at hN
  have h5 := h.2 _ hmem
  generalize l.getD (wSplit l m).1 [] = t at *
  have h6 := wPut_B (z := Z) ((wSplit l m).2 / wSum t) t _ _ h2 fun p hp => ((h5.2.2 p hp).mul (h1.div h5.2.1)).mono (by omega)
  have h7 : (wN (l.take (wSplit l m).1) + t.length) * (Z + 1) ≤ wN l * (Z + 1) := Nat.mul_le_mul_right _ hN
  rw [Nat.add_mul] at h7
  exact h6.mono (by omega)
 have h8 : wN (l.take (wSplit l m).1) * (Z + 1) ≤ wN l * (Z + 1) := Nat.mul_le_mul_right _ h3
 exact h2.mono (by omega)
noncomputable def wRk (r : Int) : List GClaim → Nat → WT
 | [], _ => []
 | c :: l, i => if c.rank = r then ((i : Int), qOf c.amount) :: wRk r l (i + 1) else wRk r l (i + 1)
noncomputable def wRanks (cs : List GClaim) : List WT := (List.range 8).map fun r : Nat => wRk (r : Int) cs 0
noncomputable def wTotal : List GClaim → Rat
 | [] => 0
 | c :: l => qOf c.amount + wTotal l
noncomputable def wPart (rest : List Rat) (x : GPart) : List Rat × Rat :=
 if x.claim = -1 then (rest, qOf x.cap) else
  (rest.set x.claim.toNat (rest.getD x.claim.toNat 0 - if x.capped = true then qmin (rest.getD x.claim.toNat 0) (qOf x.cap) else rest.getD x.claim.toNat 0),
   if x.capped = true then qmin (rest.getD x.claim.toNat 0) (qOf x.cap) else rest.getD x.claim.toNat 0)
noncomputable def wTier : List GPart → List Rat → List Rat × WT
 | [], rest => (rest, [])
 | x :: l, rest => ((wTier l (wPart rest x).1).1, (x.claim, (wPart rest x).2) :: (wTier l (wPart rest x).1).2)
noncomputable def wTiers : List (List GPart) → List Rat → List Rat × List WT
 | [], rest => (rest, [])
 | t :: a, rest => ((wTiers a (wTier t rest).1).1, (wTier t rest).2 :: (wTiers a (wTier t rest).1).2)
def wLast (M : List Int) (rest : List Rat) : WT := M.map fun i => (i, rest.getD i.toNat 0)
abbrev WPool := List Int × List WT
noncomputable def wPool (cs : List GClaim) (a : GAgr) : WPool :=
 (mem a, (wTiers a (cs.map fun c => qOf c.amount)).2 ++ [wLast (mem a) (wTiers a (cs.map fun c => qOf c.amount)).1])
structure WL where
 count : Nat
 ranks : List WT
 pools : List WPool
 total : Rat
noncomputable def wLay (e : GEst) : WL := ⟨e.claims.length, wRanks e.claims, e.agrs.map (wPool e.claims), wTotal e.claims⟩
def wGross (L : WL) (m : Rat) : List Rat := (wPay L.ranks m ⟨List.replicate L.count 0, 0⟩).cl
def wZero : List Int → List Rat → List Rat
 | [], l => l
 | i :: M, l => wZero M (l.set i.toNat 0)
def wTake : List WPool → List Rat → List Rat
 | [], l => l
 | p :: ps, l => wTake ps (wZero p.1 l)
def wTot (g : List Rat) : List Int → Rat
 | [] => 0
 | i :: M => g.getD i.toNat 0 + wTot g M
def wPools (g : List Rat) : List WPool → WR → WR
 | [], R => R
 | p :: ps, R => wPools g ps (wPay p.2 (wTot g p.1) R)
def wDel (L : WL) (m : Rat) : WR := wPools (wGross L m) L.pools ⟨wTake L.pools (wGross L m), 0⟩
theorem wZero_len : ∀ (M : List Int) (l : List Rat), (wZero M l).length = l.length
 | [], _ => rfl
 | i :: M, l => by rw [wZero, wZero_len M, List.length_set]
theorem wTake_len : ∀ (ps : List WPool) (l : List Rat), (wTake ps l).length = l.length
 | [], _ => rfl
 | p :: ps, l => by rw [wTake, wTake_len ps, wZero_len]
theorem wGross_len (L : WL) (m : Rat) : (wGross L m).length = L.count := by
 unfold wGross
 rw [wPay_len, List.length_replicate]
theorem wPools_len (g : List Rat) : ∀ (ps : List WPool) (R : WR), (wPools g ps R).cl.length = R.cl.length
 | [], _ => rfl
 | p :: ps, R => by rw [wPools, wPools_len g ps, wPay_len]
theorem wDel_len (L : WL) (m : Rat) : (wDel L m).cl.length = L.count := by
 unfold wDel
 rw [wPools_len, wTake_len, wGross_len]
def WR.get (R : WR) (i : Int) : Rat := if i = -1 then R.rv else R.cl.getD i.toNat 0
def rSum : List Rat → Rat
 | [] => 0
 | x :: l => x + rSum l
def WR.all (R : WR) : Rat := rSum R.cl + R.rv
def inR (n : Nat) (c : Int) : Prop := c = -1 ∨ 0 ≤ c ∧ c < n
def wIn (n : Nat) (t : WT) : Prop := ∀ p ∈ t, inR n p.1
def wAt (i : Int) : WT → Rat
 | [] => 0
 | p :: t => (if p.1 = i then p.2 else 0) + wAt i t
def wPayA : List WT → Rat → Int → Rat
 | [], _, _ => 0
 | t :: l, m, i => if m < wSum t then (m / wSum t) * wAt i t else wAt i t + wPayA l (m - wSum t) i
def wCap : List WT → Rat
 | [] => 0
 | t :: l => wSum t + wCap l
def wAts (i : Int) : List WT → Rat
 | [] => 0
 | t :: l => wAt i t + wAts i l
theorem rSum_set : ∀ (l : List Rat) (k : Nat) (x : Rat), k < l.length → rSum (l.set k x) = rSum l - l.getD k 0 + x
 | [], _, _, h => absurd h (by simp)
 | y :: l, 0, x, _ => by simp only [List.set_cons_zero, rSum, List.getD_cons_zero]; grind
 | y :: l, k + 1, x, h => by
  have h1 := rSum_set l k x (by simpa using h)
  simp only [List.set_cons_succ, rSum, List.getD_cons_succ, h1]
  grind
theorem getD_set_self {l : List Rat} {k : Nat} (h : k < l.length) (x : Rat) : (l.set k x).getD k 0 = x := by
 rw [List.getD_eq_getElem?_getD, List.getElem?_set_self h]; rfl
theorem getD_set_ne {l : List Rat} {k j : Nat} (h : k ≠ j) (x : Rat) : (l.set k x).getD j 0 = l.getD j 0 := by
 rw [List.getD_eq_getElem?_getD, List.getElem?_set_ne h, ← List.getD_eq_getElem?_getD]
theorem wAdd_get {R : WR} {c i : Int} (hc : inR R.cl.length c) (hi : i = -1 ∨ 0 ≤ i) (a : Rat) : (R.add c a).get i = R.get i + if c = i then a else 0 := by
 unfold WR.add WR.get
 by_cases h1 : c = -1
 ·subst h1
  by_cases h2 : i = -1
  ·subst h2; simp
  have h3 : ¬ (-1 : Int) = i := fun h => h2 h.symm
  simp only [if_pos, h2, h3, if_false]; grind
 rcases hc with h | ⟨h3, h4⟩
 ·exact absurd h h1
 simp only [h1, if_false]
 by_cases h2 : i = -1
 ·subst h2
  simp only [if_pos, h1, if_false]; grind
 simp only [h2, if_false]
 by_cases h5 : c = i
 ·subst h5
  rw [getD_set_self (by omega)]
  simp
 have h6 : c.toNat ≠ i.toNat := by omega
 rw [getD_set_ne h6]
 simp only [h5, if_false]; grind
theorem wAdd_all {R : WR} {c : Int} (hc : inR R.cl.length c) (a : Rat) : (R.add c a).all = R.all + a := by
 unfold WR.add WR.all
 by_cases h1 : c = -1
 ·simp only [h1, if_true]; grind
 rcases hc with h | ⟨h3, h4⟩
 ·exact absurd h h1
 simp only [h1, if_false]
 rw [rSum_set _ _ _ (by omega)]
 grind
theorem wPut_get (q : Rat) (i : Int) (hi : i = -1 ∨ 0 ≤ i) : ∀ (t : WT) (R : WR), wIn R.cl.length t → (wPut q t R).get i = R.get i + q * wAt i t
 | [], R, _ => by simp only [wPut, wAt]; grind
 | p :: t, R, h => by
  have h1 := wPut_get q i hi t (R.add p.1 (p.2 * q)) (by rw [wAdd_len]; exact fun x hx => h x (by simp [hx]))
  rw [wPut, h1, wAdd_get (h p (by simp)) hi, wAt]
  by_cases h2 : p.1 = i
  ·simp only [h2, if_true]; grind
  simp only [h2, if_false]; grind
theorem wPut_all (q : Rat) : ∀ (t : WT) (R : WR), wIn R.cl.length t → (wPut q t R).all = R.all + q * wSum t
 | [], R, _ => by simp only [wPut, wSum]; grind
 | p :: t, R, h => by
  have h1 := wPut_all q t (R.add p.1 (p.2 * q)) (by rw [wAdd_len]; exact fun x hx => h x (by simp [hx]))
  rw [wPut, h1, wAdd_all (h p (by simp)), wSum]
  grind
theorem wFull_put : ∀ (t : WT) (R : WR), wFull t R = wPut 1 t R
 | [], R => rfl
 | p :: t, R => by rw [wFull, wPut, Rat.mul_one, wFull_put t]
theorem wPay_nil (m : Rat) (R : WR) : wPay [] m R = R := by simp [wPay, wSplit, wFulls, wShare]
theorem wPay_cons (t : WT) (l : List WT) (m : Rat) (R : WR) : wPay (t :: l) m R = if m < wSum t then wPut (m / wSum t) t R else wPay l (m - wSum t) (wFull t R) := by
 unfold wPay
 by_cases h : m < wSum t
 ·simp only [wSplit, h, if_true, List.take_zero, wFulls]
  unfold wShare
  rw [if_pos (by simp)]
  rfl
 simp only [wSplit, h, if_false, List.take_succ_cons, wFulls]
 unfold wShare
 simp only [List.length_cons, Nat.add_lt_add_iff_right, List.getD_cons_succ]
theorem wPay_get (i : Int) (hi : i = -1 ∨ 0 ≤ i) : ∀ (l : List WT) (m : Rat) (R : WR), (∀ t ∈ l, wIn R.cl.length t) → (wPay l m R).get i = R.get i + wPayA l m i
 | [], m, R, _ => by rw [wPay_nil, wPayA]; grind
 | t :: l, m, R, h => by
  rw [wPay_cons, wPayA]
  split
  ·rw [wPut_get _ i hi t R (h t (by simp))]
  have h1 := wPay_get i hi l (m - wSum t) (wFull t R) (by rw [wFull_len]; exact fun x hx => h x (by simp [hx]))
  rw [h1, wFull_put, wPut_get 1 i hi t R (h t (by simp))]
  grind
def wNN (l : List WT) : Prop := ∀ t ∈ l, ∀ p ∈ t, 0 ≤ p.2
theorem wSum_nn : ∀ (t : WT), (∀ p ∈ t, 0 ≤ p.2) → 0 ≤ wSum t
 | [], _ => by simp [wSum]
 | p :: t, h => by
  have h1 := wSum_nn t fun x hx => h x (by simp [hx])
  have h2 := h p (by simp)
  rw [wSum]; grind
theorem wAt_nn (i : Int) : ∀ (t : WT), (∀ p ∈ t, 0 ≤ p.2) → 0 ≤ wAt i t
 | [], _ => by simp [wAt]
 | p :: t, h => by
  have h1 := wAt_nn i t fun x hx => h x (by simp [hx])
  have h2 := h p (by simp)
  rw [wAt]
  split <;> grind
theorem wCap_nn : ∀ (l : List WT), wNN l → 0 ≤ wCap l
 | [], _ => by simp [wCap]
 | t :: l, h => by
  have h1 := wCap_nn l fun x hx => h x (by simp [hx])
  have h2 := wSum_nn t (h t (by simp))
  rw [wCap]; grind
theorem div_mul_self {m s : Rat} (h : 0 < s) : m / s * s = m := Rat.div_mul_cancel (by grind)
theorem div_bounds {m s : Rat} (h0 : 0 ≤ m) (h : m < s) : 0 ≤ m / s ∧ m / s ≤ 1 := by
 have hs : 0 < s := by grind
 have h1 := div_mul_self (m := m) hs
 constructor
 ·rw [Rat.div_def]
  have h2 := Rat.inv_pos.2 hs
  exact Rat.mul_nonneg h0 (by grind)
 refine Rat.le_of_mul_le_mul_right (c := s) ?_ hs
 rw [h1]; grind
theorem wPayA_bounds (i : Int) : ∀ (l : List WT) (m : Rat), 0 ≤ m → wNN l → 0 ≤ wPayA l m i ∧ wPayA l m i ≤ wAts i l
 | [], m, _, _ => by simp [wPayA, wAts]
 | t :: l, m, hm, hn => by
  have ha := wAt_nn i t (hn t (by simp))
  have hs : 0 ≤ wAts i l := by
   have := wPayA_bounds i l 0 (by grind) fun x hx => hn x (by simp [hx])
   grind
  rw [wPayA, wAts]
  split
  ·rename_i hlt
   obtain ⟨h1, h2⟩ := div_bounds hm hlt
   have h3 := Rat.mul_nonneg h1 ha
   have h4 : m / wSum t * wAt i t ≤ 1 * wAt i t := Rat.mul_le_mul_of_nonneg_right h2 ha
   grind
  have h1 := wPayA_bounds i l (m - wSum t) (by grind) fun x hx => hn x (by simp [hx])
  grind
theorem wPayA_mono (i : Int) : ∀ (l : List WT) (m n : Rat), 0 ≤ m → m ≤ n → wNN l → wPayA l m i ≤ wPayA l n i
 | [], m, n, _, _, _ => by simp [wPayA]
 | t :: l, m, n, hm, hmn, hn => by
  have ha := wAt_nn i t (hn t (by simp))
  rw [wPayA, wPayA]
  by_cases h1 : n < wSum t
  ·have h2 : m < wSum t := by grind
   rw [if_pos h1, if_pos h2]
   refine Rat.mul_le_mul_of_nonneg_right ?_ ha
   have hs : 0 < wSum t := by grind
   refine Rat.le_of_mul_le_mul_right (c := wSum t) ?_ hs
   rw [div_mul_self hs, div_mul_self hs]
   exact hmn
  rw [if_neg h1]
  have h3 := wPayA_bounds i l (n - wSum t) (by grind) fun x hx => hn x (by simp [hx])
  by_cases h2 : m < wSum t
  ·rw [if_pos h2]
   obtain ⟨h4, h5⟩ := div_bounds hm h2
   have h6 : m / wSum t * wAt i t ≤ 1 * wAt i t := Rat.mul_le_mul_of_nonneg_right h5 ha
   grind
  rw [if_neg h2]
  have h4 := wPayA_mono i l (m - wSum t) (n - wSum t) (by grind) (by grind) fun x hx => hn x (by simp [hx])
  grind
end Go.Proofs.YtokmkopihhnggaaGreatDoor
