/- The waterfall: quotients; parts and tiers added; walked by the abstract machine. -/
import Derived.Test.YtmbahnmhicdjfaaGreatDoorAw29M
import Derived.Test.YtmbahnmhicdjfaaGreatDoorWp1M
set_option linter.unusedVariables false
set_option linter.unusedSimpArgs false
set_option linter.defProp false
set_option linter.unnecessarySimpa false
section
/- The waterfall: quotients; parts and tiers added; walked by the abstract machine. -/
namespace Go.Proofs.YtmbahnmhicdjfaaGreatDoor
open Go Go.RowKit
theorem aClean (r : GRat) (h1 : r.num.size ≤ 500000000000) (h2 : r.den.size ≤ 500000000000) : ACall Tryz.prog 90 [.agg (cRat r)] (.val (.agg (cRat (enc (qOf r))))) :=
  acall_flat (fnOK_of Tryz.func90 (by decide) (by kernel_rfl)) [vRat r] (vRat (enc (qOf r))) fun w => qclean_any r w h1 h2
theorem aCleanQ (p : Rat) (m : Nat) (hp : qB m p) (hm : m ≤ 100000000000) : ACall Tryz.prog 90 [.agg (cRat (enc p))] (.val (.agg (cRat (enc p)))) := by
  have h := aClean (enc p) (by have := (sB_enc hp).1; omega) (by have := (sB_enc hp).2; omega)
  rwa [qOf_enc] at h
theorem aDen (q : Rat) : ACall Tryz.prog 93 [.agg (cRat (enc q))] (one (.string (natStr q.den))) :=
  acall_flat (fnOK_of Tryz.func93 (by decide) (by kernel_rfl)) [vRat (enc q)] (.string (natStr q.den)) fun w => qden_enc q w
theorem aNMul (a b : ByteArray) (ha : a.size ≤ 500000000000) (hb : b.size ≤ 500000000000) : ACall Tryz.prog 92 [.one (.lit (.string a)), .one (.lit (.string b))] (one (.string (natStr (strVal a * strVal b)))) :=
  acall_flat (fnOK_of Tryz.func92 (by decide) (by kernel_rfl)) [.string a, .string b] (.string (natStr (strVal a * strVal b))) fun w => Multiply_any a b w ha hb
theorem aNorm (s : ByteArray) (hs : s.size ≤ 400000000000) : ACall Tryz.prog 140 [.one (.lit (.string s))] (one (.string (natStr (strVal s)))) :=
  acall_flat (fnOK_of Tryz.func140 (by decide) (by kernel_rfl)) [.string s] (.string (natStr (strVal s))) fun w => (normalize_any s w (by unfold maxLen; omega)).mono fun e w' ⟨h1, h2⟩ => ⟨h1, h2 ▸ Below.refl _ _⟩
theorem aReduced (neg : Bool) (a b : ByteArray) (ha : a.size ≤ 400000000000) (hb : b.size ≤ 400000000000) (hd : 0 < strVal b) : ACall Tryz.prog 91 [.one (.lit (.bool neg)), .one (.lit (.string a)), .one (.lit (.string b))] (.val (.agg (cRat (enc (mkRat (sg neg (strVal a)) (strVal b)))))) :=
  acall_flat (fnOK_of Tryz.func91 (by decide) (by kernel_rfl)) [.bool neg, .string a, .string b] (vRat (enc (mkRat (sg neg (strVal a)) (strVal b)))) fun w => qreduced_any neg a b w ha hb hd
theorem aAddQ (p q : Rat) (m n : Nat) (hp : qB m p) (hq : qB n q) (hm : m ≤ 100000000000) (hn : n ≤ 100000000000) : ACall Tryz.prog 42 [.agg (cRat (enc p)), .agg (cRat (enc q))] (.val (.agg (cRat (enc (p + q))))) := by
  have h := aAdd (enc p) (enc q) m n (sB_enc hp) (sB_enc hq) hm hn hp.pos hq.pos
  rwa [qOf_enc, qOf_enc] at h
theorem aSubQ (p q : Rat) (m n : Nat) (hp : qB m p) (hq : qB n q) (hm : m ≤ 100000000000) (hn : n ≤ 100000000000) : ACall Tryz.prog 51 [.agg (cRat (enc p)), .agg (cRat (enc q))] (.val (.agg (cRat (enc (p - q))))) := by
  have h := aSub (enc p) (enc q) m n (sB_enc hp) (sB_enc hq) hm hn hp.pos hq.pos
  rwa [qOf_enc, qOf_enc] at h
theorem aMulQ (p q : Rat) (m n : Nat) (hp : qB m p) (hq : qB n q) (hm : m ≤ 100000000000) (hn : n ≤ 100000000000) : ACall Tryz.prog 40 [.agg (cRat (enc p)), .agg (cRat (enc q))] (.val (.agg (cRat (enc (p * q))))) := by
  have h := aMul (enc p) (enc q) m n (sB_enc hp) (sB_enc hq) hm hn hp.pos hq.pos
  rwa [qOf_enc, qOf_enc] at h
theorem mk_eq0 (n : Nat) : (natStr n = { data := #[] }) ↔ n = 0 := ⟨fun h => natStr_size0.1 (by rw [h]; rfl), fun h => by subst h; exact natStr_e⟩
theorem mkRat0 (z : Int) : mkRat z 0 = 0 := by simp [mkRat]
theorem sgDiv (p q : Rat) : mkRat (sg (qNeg p != qNeg q) (p.num.natAbs * q.den)) (p.den * q.num.natAbs) = p / q := by
  by_cases h : q = 0
  · subst h
    rw [Rat.div_def, Rat.inv_zero, Rat.mul_zero]
    simp [mkRat0]
  exact (qdiv_sg h).symm
theorem num0 (q : Rat) : q.num.natAbs = 0 ↔ q = 0 := by simp
def F_rMk := And.intro zS (And.intro tf18 (And.intro tf43 (tf44)))
set_option maxRecDepth 100000 in
set_option maxHeartbeats 4000000 in
theorem make_A (neg : Bool) (a b : ByteArray) (ha : a.size ≤ 400000000000) (hb : b.size ≤ 400000000000) : ACall Tryz.prog 222 [.one (.lit (.bool neg)), .one (.lit (.string a)), .one (.lit (.string b))] (.tup [.agg (cRat (enc (mkRat (sg neg (strVal a)) (strVal b)))), .one (.lit (.bool (decide (strVal b ≠ 0))))]) := by
 refine acall_of Tryz.func222 rfl (by decide) (N := 16) rfl (by simp) (R := [.cell 6 32, .tmp 7]) rfl fun en k0 => ?_
 refine awR [] [none, none] ?_
 simp only [(id F_rMk), seval]
 repeat refine ob ?_
 by_cases h0 : strVal b = 0
 ·
  have hx : natStr (strVal b) = { data := #[] } := (mk_eq0 _).2 h0
  refine awR [] [none, none, none] ?_
  simp only [(id F_rMk), seval, hx]
  repeat refine ob ?_
  refine ⟨_, (aNorm b hb), rfl, ?_⟩
  try unfold Later
  try simp only [(id F_rMk), seval, hx]
  repeat refine ob ?_
  refine awT ?_
  refine awR [] [none, none, none] ?_
  simp only [(id F_rMk), seval, hx]
  repeat refine ob ?_
  refine awX ?_
  simp only [(id F_rMk), seval]
  rw [h0, mkRat0, ← gZ_enc]
  simp [cRat, gZ, bEmpty]
 have hx : ¬ natStr (strVal b) = { data := #[] } := fun h => h0 ((mk_eq0 _).1 h)
 refine awR [] [none, none, none] ?_
 simp only [(id F_rMk), seval, hx]
 repeat refine ob ?_
 refine ⟨_, (aNorm b hb), rfl, ?_⟩
 try unfold Later
 try simp only [(id F_rMk), seval, hx]
 repeat refine ob ?_
 refine awF ?_
 refine awK ?_
 simp only [(id F_rMk), seval]
 refine awR [] [none, none, none, none, none, none] ?_
 simp only [(id F_rMk), seval, hx, cRat]
 repeat refine ob ?_
 refine ⟨_, (aReduced neg a b ha hb (Nat.pos_of_ne_zero h0)), rfl, ?_⟩
 try unfold Later
 try simp only [(id F_rMk), seval, hx, cRat]
 repeat refine ob ?_
 refine awX ?_
 simp only [(id F_rMk), seval]
 simp [h0, cRat]
def F_rDv := And.intro zS (And.intro tf45 (And.intro tf39 (And.intro tf18 (And.intro tf19 (And.intro tf41 (And.intro tf46 (tf44)))))))
set_option maxRecDepth 100000 in
set_option maxHeartbeats 4000000 in
theorem aDiv (p q : Rat) (m n : Nat) (hp : qB m p) (hq : qB n q) (hm : m ≤ 100000000000) (hn : n ≤ 100000000000) : ACall Tryz.prog 181 [.agg (cRat (enc p)), .agg (cRat (enc q))] (.tup [.agg (cRat (enc (p / q))), .one (.lit (.bool (decide (q ≠ 0))))]) := by
 have s1 : (natStr p.num.natAbs).size ≤ m := NB.size hp.1
 have s2 : (natStr q.num.natAbs).size ≤ n := NB.size hq.1
 have s3 : (natStr p.den).size ≤ m := NB.size hp.2
 have s4 : (natStr q.den).size ≤ n := NB.size hq.2
 have nx : (natStr (p.num.natAbs * q.den)).size ≤ m + n := NB.size (NB.mul hp.1 hq.2)
 have ny : (natStr (p.den * q.num.natAbs)).size ≤ m + n := NB.size (NB.mul hp.2 hq.1)
 have hMk := make_A (qNeg p != qNeg q) (natStr (p.num.natAbs * q.den)) (natStr (p.den * q.num.natAbs)) (by omega) (by omega)
 rw [strVal_natStr, strVal_natStr, sgDiv] at hMk
 have hd0 : decide (p.den * q.num.natAbs ≠ 0) = decide (q ≠ 0) := by
  have h1 := p.den_pos
  have h2 := num0 q
  by_cases h3 : q = 0
  ·
   simp [h3]
  have h4 : q.num.natAbs ≠ 0 := fun h => h3 (h2.1 h)
  have h5 : p.den * q.num.natAbs ≠ 0 := Nat.mul_ne_zero (by omega) h4
  simp [h3, h5]
 rw [hd0] at hMk
 have hMk2 : ACall Tryz.prog 222 [.one (.lit (.bool (!(enc p).neg == (enc q).neg))), .one (.lit (.string (natStr (p.num.natAbs * q.den)))), .one (.lit (.string (natStr (p.den * q.num.natAbs))))] (.tup [.agg (cRat (enc (p / q))), .one (.lit (.bool (decide (q ≠ 0))))]) := hMk
 simp only [cRat] at hMk2
 refine acall_of Tryz.func181 rfl (by decide) (N := 28) rfl (by simp) (R := [.cell 4 32, .tmp 5]) rfl fun en k0 => ?_
 refine awR [] [none, none, none, none] ?_
 simp only [(id F_rDv), seval, cRat]
 repeat refine ob ?_
 refine awD (scq [1, 5, 2, 6, 8, 10] .nil) [none, none, none, none, none, none] ?_
 simp only [(id F_rDv), seval, cRat]
 repeat refine ob ?_
 refine ⟨_, (aCleanQ p m hp (by omega)), rfl, ?_⟩
 try unfold Later
 try simp only [(id F_rDv), seval, cRat]
 repeat refine ob ?_
 refine ⟨_, (aCleanQ q n hq (by omega)), rfl, ?_⟩
 try unfold Later
 try simp only [(id F_rDv), seval, cRat]
 repeat refine ob ?_
 refine awD (scq [1, 3, 5, 7, 9, 11, 13, 15, 21, 25, 27, 16, 18, 22, 28, 30, 33, 35, 36, 39] .nil) [none, none, none, none, none, none, none, none, none, none, none, none, none, none, none, none, none, none, none, none] ?_
 simp only [(id F_rDv), seval, cRat, strVal_natStr]
 repeat refine ob ?_
 refine ⟨_, (aDen q), rfl, ?_⟩
 try unfold Later
 try simp only [(id F_rDv), seval, cRat, strVal_natStr]
 repeat refine ob ?_
 refine ⟨_, (aNMul (natStr p.num.natAbs) (natStr q.den) (by omega) (by omega)), rfl, ?_⟩
 try unfold Later
 try simp only [(id F_rDv), seval, cRat, strVal_natStr]
 repeat refine ob ?_
 refine ⟨_, (aDen p), rfl, ?_⟩
 try unfold Later
 try simp only [(id F_rDv), seval, cRat, strVal_natStr]
 repeat refine ob ?_
 refine ⟨_, (aNMul (natStr p.den) (natStr q.num.natAbs) (by omega) (by omega)), rfl, ?_⟩
 try unfold Later
 try simp only [(id F_rDv), seval, cRat, strVal_natStr]
 repeat refine ob ?_
 refine ⟨_, hMk2, rfl, ?_⟩
 try unfold Later
 try simp only [(id F_rDv), seval, cRat, strVal_natStr]
 repeat refine ob ?_
 refine awX ?_
 (first | (simp only [(id F_rDv), seval, cRat]; done) | (simp only [(id F_rDv), seval, cRat]; first | (simp []; done)))
end Go.Proofs.YtmbahnmhicdjfaaGreatDoor
end
section
/- The waterfall: parts added to tiers, amounts added to results, ladders paid; walked by the abstract machine. -/
namespace Go.Proofs.YtmbahnmhicdjfaaGreatDoor
open Go Go.RowKit
def F_wTA := And.intro zS (And.intro tf47 (And.intro tf48 (And.intro tf49 (And.intro tf50 (And.intro tf18 (And.intro tf51 (tf52)))))))
set_option maxRecDepth 100000 in
set_option maxHeartbeats 4000000 in
theorem tAdd_I (H : Hp) (ny nm s sz n pn sp : Nat) (E : TypeId) (A B : List C) (t : WT) (c : Int) (x : Rat) (hsz : sz ≠ 0) (hnm : H nm = some ⟨s, E, sz, n, tcs A B (.own pn sp t.length 4) (enc (wSum t))⟩) (hp : H pn = some ⟨sp, 229, 4, t.length, flat cWP t⟩) (hne : nm ≠ pn) (F : ∀ k, 3000 ≤ k → k < 3015 → (nm = k) = False ∧ (k = nm) = False ∧ (pn = k) = False ∧ (k = pn) = False) (F1 : nm ≠ 3015)
  (hbH : ∀ y B, H y = some B → y < 3000 ∨ 3015 ≤ y) (hl : t.length ≤ 1000000) (hc : -1 ≤ c ∧ c ≤ 1000000) (h1 : qB 50000000000 (wSum t)) (h2 : qB 50000000000 x) : ACallI Tryz.prog 133 [.one (.ptr nm s A.length), .one (.lit (.int .i64 c)), .agg (cRat (enc x))] H ny
  (fun res H' _ => res = .tup [] ∧ ∀ y B', up (up (up H pn none) 3015 (some ⟨ny + 2, 229, 4, t.length + 1, flat cWP (t ++ [(c, x)])⟩)) nm (some ⟨s, E, sz, n, tcs A B (.own 3015 (ny + 2) (t.length + 1) 4) (enc (wSum t + x))⟩) y = some B' → H' y = some B') := by
 have G : (nm = 3015) = False ∧ (3015 = nm) = False ∧ (nm = pn) = False ∧ (pn = nm) = False := ⟨by simp [F1], by simp [F1.symm], by simp [hne], by simp [hne.symm]⟩
 have hA := aAddQ (wSum t) x 50000000000 50000000000 h1 h2 (by decide) (by decide)
 have ts1 := fun X => tcs_set1 A B X (enc (wSum t)) (enc (wSum t + x))
 simp only [cRat] at hA ts1
 refine acallI_of 3000 Tryz.func133 rfl (by decide) (N := 27) rfl (by simp) (Rl := []) rfl fun en k0 => ?_
 refine awR [] [none] ?_
 simp only [(id F_wTA), seval, cRat]
 repeat refine ob ?_
 refine awD (scq [1, 3, 5, 7, 9, 11, 13, 15, 16, 18, 21, 23, 24] .nil) [none, none, none, none, none, none, none, none, none, none, none, none, none] ?_
 simp only [(id F_wTA), seval, cRat, G, tcs_len A B, hnm, hp, F, tcs_0 A B, tcs_1 A B, tcs_get A B, tcs_set0 A B, cWP]
 repeat refine ob ?_
 refine awD (scq [1, 3, 5, 7, 9, 11, 12, 15, 17, 18] .nil) [none, none, none, none, none, none, none, none, none, none] ?_
 simp only [(id F_wTA), seval, cRat, G, hnm, hp, F, tcs_0 A B, tcs_1 A B, tcs_get A B, ts1, tcs_len A B, List.take_left]
 repeat refine ob ?_
 refine ⟨_, hA, rfl, ?_⟩
 try unfold Later
 try simp only [(id F_wTA), seval, cRat, G, hnm, hp, F, tcs_0 A B, tcs_1 A B, tcs_get A B, ts1, tcs_len A B, List.take_left]
 repeat refine ob ?_
 try refine ⟨rfl, ?_⟩
 intro y B h
 try simp only [up_apply] at h ⊢
 by_cases hy : y = nm
 ·
  simp only [hy, if_true] at h ⊢
  exact h
 simp only [hy, if_false] at h ⊢
 by_cases hy2 : y = 3015
 ·
  simp only [hy2, if_true] at h ⊢
  simpa [flat_snoc, cWP, cRat] using h
 simp only [hy2, if_false] at h ⊢
 by_cases hy3 : y = pn
 ·
  simp only [hy3, if_true] at h ⊢
  exact h
 simp only [hy3, if_false] at h ⊢
 have h9 := hbH y B h
 repeat rw [if_neg (by omega)]
 exact h
def F_wRA := And.intro zS (And.intro tf53 (And.intro tf54 (And.intro tf55 (And.intro tf56 (And.intro tf57 (tf18))))))
set_option maxRecDepth 100000 in
set_option maxHeartbeats 4000000 in
theorem rAdd_I (H : Hp) (ny s sc n : Nat) (R : WR) (c : Int) (x : Rat) (h50 : H 50 = some ⟨s, 201, 4, 1, .own 48 sc n 3 :: cRat (enc R.rv)⟩) (h48 : H 48 = some ⟨sc, 32, 3, n, flat cQ R.cl⟩) (hn : R.cl.length = n) (hbH : ∀ y B, H y = some B → y < 9000) (hl : n ≤ 1000000) (hc : inR n c) (h1 : R.B 50000000000) (h2 : qB 50000000000 x) : ACallI Tryz.prog 171 [.one (.ptr 50 s 0), .one (.lit (.int .i64 c)), .agg (cRat (enc x))] H ny
  (fun res H' _ => res = .tup [] ∧ ∀ y B', mkOn H [(50, ⟨s, 201, 4, 1, .own 48 sc n 3 :: cRat (enc (R.add c x).rv)⟩), (48, ⟨sc, 32, 3, n, flat cQ (R.add c x).cl⟩)] y = some B' → H' y = some B') := by
 have hci : c = -1 ∨ 0 ≤ c ∧ c < n := hc
 refine acallI_of 9000 Tryz.func171 rfl (by decide) (N := 32) rfl (by simp) (Rl := []) rfl fun en k0 => ?_
 refine awR [] [none] ?_
 simp only [(id F_wRA), seval, cRat, h50, h48]
 repeat refine ob ?_
 by_cases hc0 : c = -1
 ·
  refine awR [] [none, none] ?_
  simp only [(id F_wRA), seval, cRat, h50, h48, hc0]
  repeat refine ob ?_
  refine awT ?_
  have hA1 := aAddQ R.rv x 50000000000 50000000000 h1.2 h2 (by decide) (by decide)
  simp only [cRat] at hA1
  refine awD (scq [1, 3, 5, 7, 9, 11, 12, 15, 17, 18] .nil) [none, none, none, none, none, none, none, none, none, none] ?_
  simp only [(id F_wRA), seval, cRat, h50, h48, hc0]
  repeat refine ob ?_
  refine ⟨_, hA1, rfl, ?_⟩
  try unfold Later
  try simp only [(id F_wRA), seval, cRat, h50, h48, hc0]
  repeat refine ob ?_
  refine awX ?_
  simp only [(id F_wRA), seval]
  try refine ⟨rfl, ?_⟩
  intro y B h
  simp only [mkOn, up_apply, WR.add, hc0, if_true] at h ⊢
  by_cases hy : y = 50
  ·
   subst hy
   first | exact h | (simpa [h50, cRat] using h)
  simp only [hy, if_false] at h ⊢
  by_cases hy2 : y = 48
  ·
   subst hy2
   first | exact h | (simpa [h48] using h)
  simp only [hy2, if_false] at h ⊢
  have h9 := hbH y B h
  repeat rw [if_neg (by omega)]
  exact h
 refine awR [] [none, none] ?_
 simp only [(id F_wRA), seval, cRat, h50, h48, hc0]
 repeat refine ob ?_
 refine awF ?_
 refine awK ?_
 simp only [(id F_wRA), seval]
 obtain ⟨k, hk⟩ : ∃ k : Nat, c = (k : Int) := ⟨c.toNat, by omega⟩
 subst hk
 have hkn : k < R.cl.length := by omega
 have hat := flat_at cQ_len R.cl k hkn
 have hgd : R.cl.getD k 0 = R.cl[k] := by rw [List.getD_eq_getElem?_getD, List.getElem?_eq_getElem hkn]; rfl
 have hA2 := aAddQ R.cl[k] x 50000000000 50000000000 (h1.1 _ (List.getElem_mem hkn)) h2 (by decide) (by decide)
 have hset := flat_set cQ_len R.cl k (R.cl[k] + x) hkn
 have hfl := flat_length cQ_len R.cl
 simp only [cQ, cRat] at hA2 hset hat
 have hct : ((k : Int)).toNat = k := Int.toNat_natCast k
 refine awD (scq [1, 3, 5, 7, 9, 11, 13, 15, 17, 19, 21, 23, 25, 26, 29, 30] .nil) [none, none, none, none, none, none, none, none, none, none, none, none, none, none, none, none] ?_
 simp only [(id F_wRA), seval, cRat, h50, h48, hc0, hct, hat, hset, hfl]
 repeat refine ob ?_
 refine ⟨_, hA2, rfl, ?_⟩
 try unfold Later
 try simp only [(id F_wRA), seval, cRat, h50, h48, hc0, hct, hat, hset, hfl]
 repeat refine ob ?_
 try refine ⟨rfl, ?_⟩
 intro y B h
 simp only [mkOn, up_apply, WR.add, hc0, if_false, Int.toNat_natCast, hgd] at h ⊢
 by_cases hy : y = 50
 ·
  subst hy
  first | exact h | (simpa [h50, cRat] using h)
 simp only [hy, if_false] at h ⊢
 by_cases hy2 : y = 48
 ·
  subst hy2
  first | exact h | (simpa [h48] using h)
 simp only [hy2, if_false] at h ⊢
 have h9 := hbH y B h
 repeat rw [if_neg (by omega)]
 exact h
end Go.Proofs.YtmbahnmhicdjfaaGreatDoor
end
section
/- The waterfall: ladders split, tiers shared, ladders paid, what the members have; walked by the abstract machine. -/
namespace Go.Proofs.YtmbahnmhicdjfaaGreatDoor
open Go Go.RowKit
theorem aCmpQ (p q : Rat) (hp : qB 50000000000 p) (hq : qB 50000000000 q) : ACall Tryz.prog 44 [.agg (cRat (enc p)), .agg (cRat (enc q))] (one (.int .i64 (qCmp p q))) := by
  have h := aCompare (enc p) (enc q) 50000000000 50000000000 (sB_enc hp) (sB_enc hq) (by decide) (by decide) (by decide) (by decide)
  rwa [qOf_enc, qOf_enc] at h
def wSpk (k : Nat) (l : List WT) (m : Rat) : Nat × Rat := (k + (wSplit l m).1, (wSplit l m).2)
theorem wSpk_nil (k : Nat) (m : Rat) : wSpk k [] m = (k, m) := rfl
theorem wSpk_cons (k : Nat) (t : WT) (l : List WT) (m : Rat) : wSpk k (t :: l) m = if m < wSum t then (k, m) else wSpk (k + 1) l (m - wSum t) := by
  unfold wSpk
  by_cases h : m < wSum t
  · simp [wSplit, h]
  simp only [wSplit, h, if_false]
  rw [Nat.add_assoc, Nat.add_comm 1]
theorem wSpk_zero (l : List WT) (m : Rat) : wSpk 0 l m = wSplit l m := by unfold wSpk; simp
theorem onW {H f : Hp} {b : Nat} (hbH : ∀ y B, H y = some B → y < b) (hf : ∀ x, x < b → x ≠ 50 → x ≠ 48 → f x = H x) (l : List Nat) (h1 : hasN l 50 = true) (h2 : hasN l 48 = true) : ∀ x B, H x = some B → hasN l x = true ∨ f x = some B := fun x B hB => by
  by_cases e1 : x = 50
  · subst e1; exact .inl h1
  by_cases e2 : x = 48
  · subst e2; exact .inl h2
  exact .inr (by rw [hf x (hbH x B hB) e1 e2]; exact hB)
noncomputable def spR (x : Nat × Rat) : AV := .tup [.one (.lit (.int .i64 (x.1 : Int))), .agg (cRat (enc x.2))]
def F_wSp := And.intro zS (And.intro tf58 (And.intro tf59 (And.intro tf49 (And.intro tf18 (And.intro tf60 (And.intro tf44 (tf61)))))))
set_option maxRecDepth 100000 in
set_option maxHeartbeats 4000000 in
theorem split_A (l : List WT) (m0 : Rat) (K S M : Nat) (hl : wOK K S l) (hM : qB M m0) (hS : S ≤ 50000000000) (hB : M + l.length * (S + 1) ≤ 50000000000) : ACall Tryz.prog 170 [.one (.sh 4 l.length (flat cWT l)), .agg (cRat (enc m0))] (spR (wSplit l m0)) := by
 refine acall_of Tryz.func170 rfl (by decide) (N := 30) rfl (by simp) (R := [.tmp 4, .cell 5 32]) rfl fun en k0 => ?_
 refine awR [] [none, none, none] ?_
 simp only [(id F_wSp), seval, cRat]
 repeat refine ob ?_
 refine awR [] [none, none, none] ?_
 simp only [(id F_wSp), seval, cRat]
 repeat refine ob ?_
 have hV0 : qB (M + 0 * (S + 1)) m0 := hM.mono (by omega)
 have hll := hl.1
 refine awp_keep [0, 3, 5, 8, 9, 10] [3, 5] ?_
 try unfold Later
 try simp only [(id F_wSp), seval, cRat]
 repeat' first|apply awS|apply awB
 refine awp_loopw (fun n st => ∃ i0 m nx, i0 ≤ l.length ∧ n = l.length - i0 ∧ wSpk i0 (l.drop i0) m = wSpk 0 l m0 ∧ qB (M + i0 * (S + 1)) m ∧ st = ⟨mkT [(0, .val (.one (.sh 4 l.length (flat cWT l)))), (3, .val (.one (.ptr 3 0 0))), (5, .val (.one (.ptr 5 1 0))), (8, .val (.one (.sh 4 l.length (flat cWT l)))), (9, one (.int .i64 l.length)), (10, one (.int .i64 i0))], mkH [(3, ⟨0, 32, 3, 1, cRat (enc m)⟩), (5, ⟨1, 32, 3, 1, [.lit (.bool false), .lit (.string bEmpty), .lit (.string bEmpty)]⟩)], nx, 0⟩) (l.length) ⟨0, m0, _, by omega, by omega, by rfl, (by first | omega | assumption | rfl | simp | (simp; omega)), rfl⟩ ?_
 rintro n0 st ⟨i0, m, nx0, hk0, rfl, hL0, hV0_1, rfl⟩
 by_cases hlt0 : i0 < l.length
 ·
  have hI0 : (i0 : Int) < (l.length : Int) := by omega
  have hat0 := flat_at cWT_len l i0 hlt0
  try rw [Nat.mul_one] at hat0
  rw [List.drop_eq_getElem_cons hlt0] at hL0
  have hsz := hl.2 _ (List.getElem_mem hlt0)
  have hVm := hV0_1
  have hmul : (i0 + 1) * (S + 1) ≤ l.length * (S + 1) := Nat.mul_le_mul_right _ hlt0
  have hmul1 : (i0 + 1) * (S + 1) = i0 * (S + 1) + (S + 1) := Nat.succ_mul _ _
  have hnx := (hVm.sub hsz.2.1).mono (n := M + (i0 + 1) * (S + 1)) (by omega)
  generalize l[i0] = t at *
  simp only [wSpk_nil, wSpk_cons] at hL0
  refine awR [] [none] ?_
  simp only [(id F_wSp), seval, cRat, hI0, hat0]
  repeat refine ob ?_
  refine awT ?_
  refine awK ?_
  simp only [(id F_wSp), seval]
  refine awR [] [none, none, none, none, none, none] ?_
  simp only [(id F_wSp), seval, cRat, hI0, hat0, cWT]
  repeat refine ob ?_
  by_cases hq : qCmp m (wSum t) < 0
  ·
   have hm : m < wSum t := (qCmp_neg_iff _ _).1 hq
   have hC := aCmpQ m (wSum t) (hVm.mono (by omega)) (hsz.2.1.mono (by omega))
   simp only [cRat] at hC
   refine awR [] [none, none, none, none, none] ?_
   simp only [(id F_wSp), seval, cRat, hI0, hat0, hq, hm, cWT]
   repeat refine ob ?_
   refine ⟨_, hC, rfl, ?_⟩
   try unfold Later
   try simp only [(id F_wSp), seval, cRat, hI0, hat0, hq, hm, cWT]
   repeat refine ob ?_
   refine awT ?_
   refine awD (scq [1, 3, 5, 6] .nil) [none, none, none, none] ?_
   simp only [(id F_wSp), seval, cRat, hI0, hat0, hq, hm]
   repeat refine ob ?_
   refine awX ?_
   simp only [(id F_wSp), seval]
   rw [wSpk_zero] at hL0
   simp [← hL0, spR, hm, cRat]
  have hm : ¬ m < wSum t := fun h => hq ((qCmp_neg_iff _ _).2 h)
  have hC := aCmpQ m (wSum t) (hVm.mono (by omega)) (hsz.2.1.mono (by omega))
  simp only [cRat] at hC
  refine awR [] [none, none, none, none, none] ?_
  simp only [(id F_wSp), seval, cRat, hI0, hat0, hq, hm, cWT]
  repeat refine ob ?_
  refine ⟨_, hC, rfl, ?_⟩
  try unfold Later
  try simp only [(id F_wSp), seval, cRat, hI0, hat0, hq, hm, cWT]
  repeat refine ob ?_
  refine awF ?_
  refine awK ?_
  simp only [(id F_wSp), seval]
  have hA := aSubQ m (wSum t) _ _ hVm hsz.2.1 (by omega) (by omega)
  simp only [cRat] at hA
  refine awR [] [none, none, none, none, none] ?_
  simp only [(id F_wSp), seval, cRat, hI0, hat0, hq, hm, cWT]
  repeat refine ob ?_
  refine ⟨_, hA, rfl, ?_⟩
  try unfold Later
  try simp only [(id F_wSp), seval, cRat, hI0, hat0, hq, hm, cWT]
  repeat refine ob ?_
  refine awR [] [none, none] ?_
  simp only [(id F_wSp), seval, cRat, hI0, hat0, hq, hm]
  repeat refine ob ?_
  repeat refine ob ?_
  refine ⟨_, wk_keep [0, 3, 5, 8, 9, 10] [3, 5], l.length - (i0 + 1), by omega, i0 + 1, (m - wSum t), ?a10_nx, by omega, rfl, ?i10_0, ?i10_1, ?st10⟩
  case st10 => (simp only [(id F_wSp), seval, cRat, hI0, hat0, hq, hm]; first | rfl | (simp [hI0, hat0, hq, hm, Nat.add_mul]; done))
  case i10_0 => (first | exact hL0 | (rw [← hL0]; simp only [reduceIte, hI0, hat0, hq, hm]; done) | (rw [← hL0]; simp [hI0, hat0, hq, hm]; done) | (simp [hI0, hat0, hq, hm] at hL0; simpa using hL0) | (rw [← hL0]; simp [*]; done))
  case i10_1 => (first | omega | assumption | (simp; omega) | (simp_all; done))
 obtain rfl : i0 = l.length := by omega
 have hI0 : ¬ (l.length : Int) < (l.length : Int) := by omega
 rw [List.drop_length] at hL0
 simp only [wSpk_nil, wSpk_cons] at hL0
 refine awR [] [none] ?_
 simp only [(id F_wSp), seval, cRat, hI0]
 repeat refine ob ?_
 refine awF ?_
 refine awQ ?_
 simp only [(id F_wSp), seval]
 refine awD (scq [1, 3, 5, 7, 8] .nil) [none, none, none, none, none] ?_
 simp only [(id F_wSp), seval, cRat, hI0]
 repeat refine ob ?_
 refine awX ?_
 simp only [(id F_wSp), seval]
 rw [wSpk_zero] at hL0
 simp [← hL0, spR, cRat]
def F_wSh := And.intro zS (And.intro tf62 (And.intro tf47 (And.intro tf63 (And.intro tf64 (And.intro tf48 (And.intro tf49 (And.intro tf50 (And.intro tf18 (And.intro tf12 (And.intro tf65 (And.intro tf44 (tf52))))))))))))
set_option maxRecDepth 100000 in
set_option maxHeartbeats 4000000 in
theorem share_I (H : Hp) (ny s sc nn : Nat) (R0 : WR) (t : WT) (a : Rat) (K A Sm C Z : Nat) (h50 : H 50 = some ⟨s, 201, 4, 1, .own 48 sc nn 3 :: cRat (enc R0.rv)⟩) (h48 : H 48 = some ⟨sc, 32, 3, nn, flat cQ R0.cl⟩) (hR0 : R0.cl.length = nn) (hbH : ∀ y B, H y = some B → y < 8000) (hl : nn ≤ 1000000) (htl : t.length ≤ 1000) (hin : wIn nn t) (hA0 : qB A a) (hS0 : qB Sm (wSum t)) (hK : ∀ p ∈ t, qB K p.2) (hC : R0.B C) (hZ : K + (A + Sm) ≤ Z) (hB : C + t.length * (Z + 1) ≤ 50000000000) (hZb : Z ≤ 50000000000) : ACallI Tryz.prog 172 [.one (.ptr 50 s 0), .agg (cWT t), .agg (cRat (enc a))] H ny
  (fun res H' _ => res = .tup [] ∧ ∀ y B', mkOn H [(50, ⟨s, 201, 4, 1, .own 48 sc nn 3 :: cRat (enc (wPut (a / wSum t) t R0).rv)⟩), (48, ⟨sc, 32, 3, nn, flat cQ (wPut (a / wSum t) t R0).cl⟩)] y = some B' → H' y = some B') := by
 refine acallI_of 8000 Tryz.func172 rfl (by decide) (N := 33) rfl (by simp) (Rl := []) rfl fun en k0 => ?_
 refine awR [] [none, none] ?_
 simp only [(id F_wSh), seval, cRat, h50, h48, cWT]
 repeat refine ob ?_
 have hA := aDiv a (wSum t) A Sm hA0 hS0 (by omega) (by omega)
 simp only [cRat] at hA
 refine awR [] [none, none, none, none, none, none, none, none, none, none] ?_
 simp only [(id F_wSh), seval, cRat, h50, h48, cWT]
 repeat refine ob ?_
 refine ⟨_, hA, rfl, ?_⟩
 try unfold Later
 try simp only [(id F_wSh), seval, cRat, h50, h48, cWT]
 repeat refine ob ?_
 refine awR [] [none, none, none, none] ?_
 simp only [(id F_wSh), seval, cRat, h50, h48, cWT]
 repeat refine ob ?_
 have hQ : qB (A + Sm) (a / wSum t) := hA0.div hS0
 generalize a / wSum t = q at *
 have hV0 : R0.B (C + 0 * (Z + 1)) := hC.mono (by omega)
 refine awp_on H [0, 6, 18, 19, 20] [50, 48, 8006] (onW hbH (fun x h1 h2 h3 => by simp only [up_apply]; repeat rw [if_neg (by omega)]) _ (by rfl) (by rfl)) ?_
 try unfold Later
 try simp only [(id F_wSh), seval, cRat, h50, h48]
 repeat' first|apply awS|apply awB
 refine awp_loopw (fun n st => ∃ i0 R nx, i0 ≤ t.length ∧ n = t.length - i0 ∧ wPut q (t.drop i0) R = wPut q t R0 ∧ R.cl.length = nn ∧ R.B (C + i0 * (Z + 1)) ∧ st = ⟨mkT [(0, .val (.one (.ptr 50 s 0))), (6, .val (.one (.ptr 8006 (ny + 2) 0))), (18, .val (.one (.sh 4 t.length (flat cWP t)))), (19, one (.int .i64 t.length)), (20, one (.int .i64 i0))], mkOn H [(50, ⟨s, 201, 4, 1, .own 48 sc nn 3 :: cRat (enc R.rv)⟩), (48, ⟨sc, 32, 3, nn, flat cQ R.cl⟩), (8006, ⟨(ny + 2), 32, 3, 1, cRat (enc q)⟩)], nx, 8000⟩) (t.length) ⟨0, R0, _, by omega, by omega, by rfl, (by first | omega | assumption | rfl | simp | (simp; omega)), (by first | omega | assumption | rfl | simp | (simp; omega)), rfl⟩ ?_
 rintro n0 st ⟨i0, R, nx0, hk0, rfl, hL0, hV0_1, hV0_2, rfl⟩
 by_cases hlt0 : i0 < t.length
 ·
  have hI0 : (i0 : Int) < (t.length : Int) := by omega
  have hat0 := flat_at cWP_len t i0 hlt0
  try rw [Nat.mul_one] at hat0
  rw [List.drop_eq_getElem_cons hlt0] at hL0
  have hxm := (List.getElem_mem hlt0)
  have hRn := hV0_1
  have hRB := hV0_2
  have hmul : (i0 + 1) * (Z + 1) ≤ t.length * (Z + 1) := Nat.mul_le_mul_right _ hlt0
  have hmul1 : (i0 + 1) * (Z + 1) = i0 * (Z + 1) + (Z + 1) := Nat.succ_mul _ _
  have hnx := (wAdd_B hRB (t[i0]).1 (((hK _ hxm).mul hQ).mono hZ)).mono (n := C + (i0 + 1) * (Z + 1)) (by omega)
  have hnl := wAdd_len R (t[i0]).1 ((t[i0]).2 * q)
  generalize t[i0] = x at *
  simp only [wPut] at hL0
  refine awR [] [none] ?_
  simp only [(id F_wSh), seval, cRat, h50, h48, hI0, hat0]
  repeat refine ob ?_
  refine awT ?_
  refine awK ?_
  simp only [(id F_wSh), seval]
  refine awR [] [none, none, none, none] ?_
  simp only [(id F_wSh), seval, cRat, h50, h48, hI0, hat0, cWP]
  repeat refine ob ?_
  have hA5 := aMulQ x.2 q _ _ (hK _ hxm) hQ (by omega) (by omega)
  simp only [cRat] at hA5
  repeat' first|apply awS|apply awB
  refine awp_drawsI [31] (by kernel_rfl) (.cons 0 true (.cons 1 true (.cons 2 true (.cons 3 true (.cons 4 true (.cons 5 true (.cons 6 false (.cons 7 false .nil)))))))) (by kernel_rfl) (gs := [none, none, none, none, none, none, none, none]) (by kernel_rfl) (by simp only [(id zS), seval]; rfl) (by decide) ?_
  simp only [(id F_wSh), seval, cRat, h50, h48, hI0, hat0, cWP, (id SD)]
  repeat refine ob ?_
  refine ⟨_, hA5, rfl, ?_⟩
  try unfold Later
  try simp only [(id F_wSh), seval, cRat, h50, h48, hI0, hat0, cWP]
  repeat refine ob ?_
  refine ⟨_, rAdd_I _ _ s sc nn R x.1 (x.2 * q) (by rfl) (by rfl) hRn (fun y B h => ?_) (by omega) (hin _ hxm) (hRB.mono (by omega)) (((hK _ hxm).mul hQ).mono (by omega)), ?_⟩
  ·
   simp only [up_apply] at h
   repeat (split at h; · omega)
   have h9 := hbH y B h
   omega
  rintro res H' nx' ⟨rfl, hW⟩
  simp only [(id F_wSh), seval]
  repeat refine ob ?_
  refine awp_weak hW ?_
  simp only [(id F_wSh), seval]
  refine awR [] [none, none] ?_
  simp only [(id F_wSh), seval, cRat, h50, h48, hI0, hat0]
  repeat refine ob ?_
  repeat refine ob ?_
  refine ⟨_, wk_on H [0, 6, 18, 19, 20] [50, 48, 8006] (onW hbH (fun x h1 h2 h3 => by simp only [up_apply]; repeat rw [if_neg (by omega)]) _ (by rfl) (by rfl)), t.length - (i0 + 1), by omega, i0 + 1, (R.add x.1 (x.2 * q)), ?a7_nx, by omega, rfl, ?i7_0, ?i7_1, ?i7_2, ?st7⟩
  case st7 => (simp only [(id F_wSh), seval, cRat, h50, h48, hI0, hat0]; first | rfl | (simp [hI0, hat0, Nat.add_mul]; done))
  case i7_0 => (first | exact hL0 | (rw [← hL0]; simp only [reduceIte, hI0, hat0]; done) | (rw [← hL0]; simp [hI0, hat0]; done) | (simp [hI0, hat0] at hL0; simpa using hL0) | (rw [← hL0]; simp [*]; done))
  case i7_1 => (first | omega | assumption | (simp; omega) | (simp_all; done))
  case i7_2 => (first | omega | assumption | (simp; omega) | (simp_all; done))
 obtain rfl : i0 = t.length := by omega
 have hI0 : ¬ (t.length : Int) < (t.length : Int) := by omega
 rw [List.drop_length] at hL0
 simp only [wPut] at hL0
 refine awR [] [none] ?_
 simp only [(id F_wSh), seval, cRat, h50, h48, hI0]
 repeat refine ob ?_
 refine awF ?_
 refine awQ ?_
 simp only [(id F_wSh), seval]
 try refine ⟨rfl, ?_⟩
 intro y B h
 simp only [← hL0] at h
 try simp only [mkOn, up_apply] at h ⊢
 by_cases hy : y = 50
 ·
  subst hy
  first | exact h | (simpa [h50, cRat] using h)
 simp only [hy, if_false] at h ⊢
 by_cases hy2 : y = 48
 ·
  subst hy2
  first | exact h | (simpa [h48] using h)
 simp only [hy2, if_false] at h ⊢
 have h9 := hbH y B h
 repeat rw [if_neg (by omega)]
 exact h
end Go.Proofs.YtmbahnmhicdjfaaGreatDoor
end
