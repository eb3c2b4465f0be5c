/- guarantee.Refunds: walked. -/
import Derived.Test.YtokmkopihhnggaaGreatDoorOw4M
import Derived.Deep.DeepCutAuto
import Derived.Deep.RegionHeld3
import Derived.Test.YtokmkopihhnggaaGreatDoorFewM
import Derived.Test.YtokmkopihhnggaaGreatDoorWf6M
import Derived.Test.YtokmkopihhnggaaGreatDoorAbBM
import Derived.Test.YtokmkopihhnggaaGreatDoorAbZM
set_option linter.unusedVariables false
set_option linter.unusedSimpArgs false
set_option linter.defProp false
set_option linter.unusedSectionVars false
namespace Go.Proofs.YtokmkopihhnggaaGreatDoor
open Go.RowKit
attribute [local go_sem ↓] Go.wp_at_zero Go.wp_at_succ
def RSt (w wr : World) (W : GRat) (n : Nat) (rs : List GRat) (s o : GRat) : Prop :=
 Bx wr w.heap.size W ∧ OwnR wr (w.heap.size + 1) n rs ∧ Bx wr (w.heap.size + 1 + 1) s ∧ Bx wr (w.heap.size + 1 + 1 + 1) o ∧ Below w.heap.size w wr
section
variable {w wr : World} {W : GRat} {n : Nat} {rs : List GRat} {s o : GRat}
theorem RSt.next {w' : World} (h : RSt w wr W n rs s o) (hb : Below wr.heap.size wr w') : RSt w w' W n rs s o := ⟨h.1.below hb, h.2.1.below hb, h.2.2.1.below hb, h.2.2.2.1.below hb, h.2.2.2.2.step hb⟩
theorem RSt.drew (h : RSt w wr W n rs s o) : RSt w wr.drew W n rs s o := ⟨h.1.drew, h.2.1.drew, h.2.2.1.drew, h.2.2.2.1.drew, Below.drew h.2.2.2.2⟩
theorem RSt.alloc (h : RSt w wr W n rs s o) (b : Obj) : RSt w (wr.alloc b) W n rs s o := h.next ((Below.refl _ _).alloc (Nat.le_refl _) _)
theorem RSt.putO (h : RSt w wr W n rs s o) (a : GRat) : RSt w (put3 wr (w.heap.size + 1 + 1 + 1) a) W n rs s a :=
 ⟨h.1.other (by omega) a, h.2.1.other (by omega) a, h.2.2.1.other (by omega) a, h.2.2.2.1.put a, below_put h.2.2.2.2 (by omega) a⟩
theorem RSt.lt (h : RSt w wr W n rs s o) : w.heap.size + 1 + 1 + 1 < wr.heap.size := Blk3.lt h.2.2.2.1
end
attribute [local go_sem ↓] Go.wp_at_zero Go.wp_at_succ
theorem RL.get {w : World} {v : Value} {l : List GRat} (h : RL w v l) {k : Nat} (hk : k < l.length) :
  ∃ b off cap, v = .slice (some ⟨b, off, none⟩) l.length cap ∧ b < w.heap.size ∧ l.length ≤ 9223372036854775807 ∧ ∀ j (h : j < l.length), w.cell? ⟨b, off + j * 3, none⟩ = some (.bool l[j].neg) ∧ w.cell? ⟨b, off + j * 3 + 1, none⟩ = some (.string l[j].num) ∧ w.cell? ⟨b, off + j * 3 + 2, none⟩ = some (.string l[j].den) ∧ sB maxLen l[j] := by
 obtain ⟨a, cap, rfl, h1, h2⟩ := h.open
 rcases h2 with h2 | ⟨b, off, rfl, hb, h3⟩
 ·rw [h2] at hk; simp at hk
 exact ⟨b, off, cap, rfl, hb, h1, h3⟩
def AwS (w5 : World) (b off : Nat) (q0 q20 : GRat) (w' : World) : Prop := Below w5.heap.size w5 w' ∧ w'.cell? ⟨b, off, none⟩ = some (.bool q0.neg) ∧ w'.cell? ⟨b, off + 1, none⟩ = some (.string q0.num) ∧ w'.cell? ⟨b, off + 2, none⟩ = some (.string q0.den) ∧ w'.cell? ⟨b, off + 3, none⟩ = some (.bool q20.neg) ∧ w'.cell? ⟨b, off + 3 + 1, none⟩ = some (.string q20.num) ∧ w'.cell? ⟨b, off + 3 + 2, none⟩ = some (.string q20.den) ∧ w'.cell? ⟨b, off + 6, none⟩ = some (.bool q20.neg) ∧ w'.cell? ⟨b, off + 6 + 1, none⟩ = some (.string q20.num) ∧ w'.cell? ⟨b, off + 6 + 2, none⟩ = some (.string q20.den)
theorem AwS.drew {w5 W : World} {b off : Nat} {q0 q20 : GRat} (h : AwS w5 b off q0 q20 W) : AwS w5 b off q0 q20 W.drew := ⟨Below.drew h.1, h.2⟩
theorem AwS.next {w5 W V : World} {b off : Nat} {q0 q20 : GRat} (h : AwS w5 b off q0 q20 W) (hb : b < w5.heap.size) (hV : Below W.heap.size W V) : AwS w5 b off q0 q20 V := by
 have hc : ∀ o, V.cell? ⟨b, o, none⟩ = W.cell? ⟨b, o, none⟩ := fun o => hV.cell (p := ⟨b, o, none⟩) (Nat.lt_of_lt_of_le hb h.1.size)
 obtain ⟨h0, h⟩ := h
 refine ⟨h0.step hV, ?_⟩
 simp only [hc]
 exact h
end Go.Proofs.YtokmkopihhnggaaGreatDoor
namespace Go.Proofs.YtokmkopihhnggaaGreatDoor
open Go Go.RowKit
theorem acall_law {P : Program} {f : FuncId} {args : List A1} {vs : List Value} {w : World} (h : ACall P f args (one (.bool true))) (hd : den1s (kAll w) vs args) :
  Calls P f vs.toArray w fun e w' => e = .returned (.bool true) ∧ Below w.heap.size w w' :=
 (h.2 w (LT w.heap.size) vs (fun _ h => h) hd).mono fun e w' ⟨v, he, hb, hv⟩ => by
  have : v = .bool true := hv.1
  subst this
  exact ⟨he, hb⟩
theorem den_oneC {α : Type} {enc : α → List C} {ok : α → Prop} {W : World} {v : Value} {a : α} {c : C} (o : rC enc ok W (LT W.heap.size) [v] a) (he : enc a = [c]) : den1 (kAll W) v (.one c) ∧ ok a := by
 obtain ⟨h, k⟩ := o
 rw [he] at h
 exact ⟨h.1, k⟩
end Go.Proofs.YtokmkopihhnggaaGreatDoor
namespace Go.Proofs.YtokmkopihhnggaaGreatDoor
open Go Go.RowKit Go.ChangeShapes Go.WideShapes Go.ChangeAt

end Go.Proofs.YtokmkopihhnggaaGreatDoor
namespace Go.Proofs.YtokmkopihhnggaaGreatDoor
open Go Go.RowKit
section
variable {P : Program} {e : En} {k0 : Kx} {N : Nat} {st : St} {a : Act} {w : World} {Q : Exit → St → Prop} {c : Code}
end
section
variable {P : Program} {e : En} {k0 : Kx} {N : Nat} {st : St} {Q : Exit → St → Prop} {c : Code}
theorem awp_weak {H0 : Hp} (hH : ∀ y B, H0 y = some B → st.H y = some B) (h : Awp P e k0 N c Q ⟨st.tm, H0, st.nx, st.nb⟩) : Awp P e k0 N c Q st :=
 awp_wk (fun _ _ hr => rel_keep (k0 := k0) st.tm H0 (fun _ => .inl rfl) hH hr) h
end
noncomputable def cQ (q : Rat) : List C := cRat (enc q)
theorem cQ_len (q : Rat) : (cQ q).length = 3 := rfl
theorem cQ_pure (q : Rat) : pureCs (cQ q) = true := pure_cRat _
noncomputable def cWP (p : WP) : List C := .lit (.int .i64 p.1) :: cRat (enc p.2)
theorem cWP_len (p : WP) : (cWP p).length = 4 := rfl
theorem cWP_pure (p : WP) : pureCs (cWP p) = true := rfl
noncomputable def cWT (t : WT) : List C := .sh 4 t.length (flat cWP t) :: cRat (enc (wSum t))
theorem cWT_len (t : WT) : (cWT t).length = 4 := rfl
theorem cWT_pure (t : WT) : pureCs (cWT t) = true := by simp [cWT, cRat, pureCs, pureC, flat_pure cWP_pure]
noncomputable def cPool (p : WPool) : List C := [.sh 1 p.1.length (flat cI p.1), .sh 4 p.2.length (flat cWT p.2)]
theorem cPool_len (p : WPool) : (cPool p).length = 2 := rfl
theorem cPool_pure (p : WPool) : pureCs (cPool p) = true := by simp [cPool, pureCs, pureC, flat_pure cI_pure, flat_pure cWT_pure]
noncomputable def cLay (L : WL) : List C := .lit (.int .i64 (L.count : Int)) :: .sh 4 L.ranks.length (flat cWT L.ranks) :: .sh 2 L.pools.length (flat cPool L.pools) :: cRat (enc L.total)
def tcs (A B : List C) (x : C) (s : GRat) : List C := A ++ (x :: (cRat s ++ B))
section
variable (A B : List C) (x y : C) (s s' : GRat)
theorem tcs_len : (tcs A B x s).length = A.length + (4 + B.length) := by simp [tcs, cRat]; omega
theorem tcs_0 : (tcs A B x s).drop A.length = x :: (cRat s ++ B) := by simp [tcs]
theorem tcs_1 : (tcs A B x s).drop (A.length + 1) = cRat s ++ B := by rw [← List.drop_drop, tcs_0]; rfl
theorem tcs_get : (tcs A B x s)[A.length]? = some x := by simp [tcs]
theorem tcs_set0 : spl (tcs A B x s) A.length [y] = tcs A B y s := by
 unfold tcs
 exact spl_mid A [x] (cRat s ++ B) [y] rfl
theorem tcs_set1 : spl (tcs A B x s) (A.length + 1) (cRat s') = tcs A B x s' := by
 have h := spl_mid (A ++ [x]) (cRat s) B (cRat s') rfl
 simp only [List.append_assoc, List.length_append, List.length_cons, List.length_nil, List.cons_append, List.nil_append] at h
 exact h
end
theorem repl_cQ (n : Nat) : repl n [C.lit (.bool false), C.lit (.string bEmpty), C.lit (.string bEmpty)] = flat cQ (List.replicate n 0) := by
 induction n with
 | zero => rfl
 | succ n ih =>
  rw [List.replicate_succ, flat_cons, ← ih, repl_succ]
  unfold cQ
  rw [← gZ_enc]
  rfl
theorem enc0_cells : cRat (enc 0) = [.lit (.bool false), .lit (.string bEmpty), .lit (.string bEmpty)] := by rw [← gZ_enc]; rfl
theorem aClean (r : GRat) (h1 : r.num.size ≤ 500000000000) (h2 : r.den.size ≤ 500000000000) : ACall Tryz.prog 78 [.agg (cRat r)] (.val (.agg (cRat (enc (qOf r))))) :=
 acall_flat (fnOK_of Tryz.func78 (by decide) (by kernel_rfl)) [vRat r] (vRat (enc (qOf r))) fun w => qclean_any r w h1 h2
theorem aCleanQ (p : Rat) (m : Nat) (hp : qB m p) (hm : m ≤ 100000000000) : ACall Tryz.prog 78 [.agg (cRat (enc p))] (.val (.agg (cRat (enc p)))) := by
 have h := aClean (enc p) (by have := (sB_enc hp).1; omega) (by have := (sB_enc hp).2; omega)
 rwa [qOf_enc] at h
theorem aDen (q : Rat) : ACall Tryz.prog 86 [.agg (cRat (enc q))] (one (.string (natStr q.den))) :=
 acall_flat (fnOK_of Tryz.func86 (by decide) (by kernel_rfl)) [vRat (enc q)] (.string (natStr q.den)) fun w => qden_enc q w
theorem aNMul (a b : ByteArray) (ha : a.size ≤ 500000000000) (hb : b.size ≤ 500000000000) : ACall Tryz.prog 85 [.one (.lit (.string a)), .one (.lit (.string b))] (one (.string (natStr (strVal a * strVal b)))) :=
 acall_flat (fnOK_of Tryz.func85 (by decide) (by kernel_rfl)) [.string a, .string b] (.string (natStr (strVal a * strVal b))) fun w => Multiply_any a b w ha hb
theorem aNorm (s : ByteArray) (hs : s.size ≤ 400000000000) : ACall Tryz.prog 134 [.one (.lit (.string s))] (one (.string (natStr (strVal s)))) :=
 acall_flat (fnOK_of Tryz.func134 (by decide) (by kernel_rfl)) [.string s] (.string (natStr (strVal s))) fun w => (normalize_any s w (by unfold maxLen; omega)).mono fun e w' ⟨h1, h2⟩ => ⟨h1, h2 ▸ Below.refl _ _⟩
theorem aReduced (neg : Bool) (a b : ByteArray) (ha : a.size ≤ 400000000000) (hb : b.size ≤ 400000000000) (hd : 0 < strVal b) : ACall Tryz.prog 88 [.one (.lit (.bool neg)), .one (.lit (.string a)), .one (.lit (.string b))] (.val (.agg (cRat (enc (mkRat (sg neg (strVal a)) (strVal b)))))) :=
 acall_flat (fnOK_of Tryz.func88 (by decide) (by kernel_rfl)) [.bool neg, .string a, .string b] (vRat (enc (mkRat (sg neg (strVal a)) (strVal b)))) fun w => qreduced_any neg a b w ha hb hd
theorem aAddQ (p q : Rat) (m n : Nat) (hp : qB m p) (hq : qB n q) (hm : m ≤ 100000000000) (hn : n ≤ 100000000000) : ACall Tryz.prog 31 [.agg (cRat (enc p)), .agg (cRat (enc q))] (.val (.agg (cRat (enc (p + q))))) := by
 have h := aAdd (enc p) (enc q) m n (sB_enc hp) (sB_enc hq) hm hn hp.pos hq.pos
 rwa [qOf_enc, qOf_enc] at h
theorem aSubQ (p q : Rat) (m n : Nat) (hp : qB m p) (hq : qB n q) (hm : m ≤ 100000000000) (hn : n ≤ 100000000000) : ACall Tryz.prog 39 [.agg (cRat (enc p)), .agg (cRat (enc q))] (.val (.agg (cRat (enc (p - q))))) := by
 have h := aSub (enc p) (enc q) m n (sB_enc hp) (sB_enc hq) hm hn hp.pos hq.pos
 rwa [qOf_enc, qOf_enc] at h
theorem aMulQ (p q : Rat) (m n : Nat) (hp : qB m p) (hq : qB n q) (hm : m ≤ 100000000000) (hn : n ≤ 100000000000) : ACall Tryz.prog 38 [.agg (cRat (enc p)), .agg (cRat (enc q))] (.val (.agg (cRat (enc (p * q))))) := by
 have h := aMul (enc p) (enc q) m n (sB_enc hp) (sB_enc hq) hm hn hp.pos hq.pos
 rwa [qOf_enc, qOf_enc] at h
theorem mk_eq0 (n : Nat) : (natStr n = { data := #[] }) ↔ n = 0 := ⟨fun h => natStr_size0.1 (by rw [h]; rfl), fun h => by subst h; exact natStr_e⟩
theorem mkRat0 (z : Int) : mkRat z 0 = 0 := by simp [mkRat]
theorem sgDiv (p q : Rat) : mkRat (sg (qNeg p != qNeg q) (p.num.natAbs * q.den)) (p.den * q.num.natAbs) = p / q := by
 by_cases h : q = 0
 ·subst h
  rw [Rat.div_def, Rat.inv_zero, Rat.mul_zero]
  simp [mkRat0]
 exact (qdiv_sg h).symm
theorem num0 (q : Rat) : q.num.natAbs = 0 ↔ q = 0 := by simp
def F12 := And.intro zS (And.intro tf18 (And.intro tf38 (tf39)))
set_option maxRecDepth 100000 in
set_option maxHeartbeats 4000000 in
theorem make_A (neg : Bool) (a b : ByteArray) (ha : a.size ≤ 400000000000) (hb : b.size ≤ 400000000000) : ACall Tryz.prog 211 [.one (.lit (.bool neg)), .one (.lit (.string a)), .one (.lit (.string b))] (.tup [.agg (cRat (enc (mkRat (sg neg (strVal a)) (strVal b)))), .one (.lit (.bool (decide (strVal b ≠ 0))))]) := by
 refine acall_of Tryz.func211 rfl (by decide) (N := 16) rfl (by simp) (R := [.cell 6 32, .tmp 7]) rfl fun en k0 => ?_
 refine awN ?_
 simp only [(id F12), seval]
 repeat refine ob ?_
 by_cases h0 : strVal b = 0
 ·skip
  have hx : natStr (strVal b) = { data := #[] } := (mk_eq0 _).2 h0
  refine awN ?_
  simp only [(id F12), seval, hx]
  repeat refine ob ?_
  refine ⟨_, (aNorm b hb), rfl, ?_⟩
  try unfold Later
  try simp only [(id F12), seval, hx]
  repeat refine ob ?_
  refine awT ?_
  refine awN ?_
  simp only [(id F12), seval, hx]
  repeat refine ob ?_
  refine awX ?_
  simp only [(id F12), seval]
  rw [h0, mkRat0, ← gZ_enc]
  simp [cRat, gZ, bEmpty]
 skip
 have hx : ¬ natStr (strVal b) = { data := #[] } := fun h => h0 ((mk_eq0 _).1 h)
 refine awN ?_
 simp only [(id F12), seval, hx]
 repeat refine ob ?_
 refine ⟨_, (aNorm b hb), rfl, ?_⟩
 try unfold Later
 try simp only [(id F12), seval, hx]
 repeat refine ob ?_
 refine awF ?_
 refine awK ?_
 simp only [(id F12), seval]
 refine awN ?_
 simp only [(id F12), seval, hx, cRat]
 repeat refine ob ?_
 refine ⟨_, (aReduced neg a b ha hb (Nat.pos_of_ne_zero h0)), rfl, ?_⟩
 try unfold Later
 try simp only [(id F12), seval, hx, cRat]
 repeat refine ob ?_
 refine awX ?_
 simp only [(id F12), seval]
 simp [h0, cRat]
def F13 := And.intro zS (And.intro tf40 (And.intro tf41 (And.intro tf18 (And.intro tf19 (And.intro tf42 (And.intro tf43 (tf39)))))))
set_option maxRecDepth 100000 in
set_option maxHeartbeats 4000000 in
theorem aDiv (p q : Rat) (m n : Nat) (hp : qB m p) (hq : qB n q) (hm : m ≤ 100000000000) (hn : n ≤ 100000000000) : ACall Tryz.prog 173 [.agg (cRat (enc p)), .agg (cRat (enc q))] (.tup [.agg (cRat (enc (p / q))), .one (.lit (.bool (decide (q ≠ 0))))]) := by
 have s1 : (natStr p.num.natAbs).size ≤ m := NB.size hp.1
 have s2 : (natStr q.num.natAbs).size ≤ n := NB.size hq.1
 have s3 : (natStr p.den).size ≤ m := NB.size hp.2
 have s4 : (natStr q.den).size ≤ n := NB.size hq.2
 have nx : (natStr (p.num.natAbs * q.den)).size ≤ m + n := NB.size (NB.mul hp.1 hq.2)
 have ny : (natStr (p.den * q.num.natAbs)).size ≤ m + n := NB.size (NB.mul hp.2 hq.1)
 have hMk := make_A (qNeg p != qNeg q) (natStr (p.num.natAbs * q.den)) (natStr (p.den * q.num.natAbs)) (by omega) (by omega)
 rw [strVal_natStr, strVal_natStr, sgDiv] at hMk
 have hd0 : decide (p.den * q.num.natAbs ≠ 0) = decide (q ≠ 0) := by
  have h1 := p.den_pos
  have h2 := num0 q
  by_cases h3 : q = 0
  ·
   simp [h3]
  have h4 : q.num.natAbs ≠ 0 := fun h => h3 (h2.1 h)
  have h5 : p.den * q.num.natAbs ≠ 0 := Nat.mul_ne_zero (by omega) h4
  simp [h3, h5]
 rw [hd0] at hMk
 have hMk2 : ACall Tryz.prog 211 [.one (.lit (.bool (!(enc p).neg == (enc q).neg))), .one (.lit (.string (natStr (p.num.natAbs * q.den)))), .one (.lit (.string (natStr (p.den * q.num.natAbs))))] (.tup [.agg (cRat (enc (p / q))), .one (.lit (.bool (decide (q ≠ 0))))]) := hMk
 simp only [cRat] at hMk2
 refine acall_of Tryz.func173 rfl (by decide) (N := 28) rfl (by simp) (R := [.cell 4 32, .tmp 5]) rfl fun en k0 => ?_
 refine awN ?_
 simp only [(id F13), seval, cRat]
 repeat refine ob ?_
 refine awD (scq [1, 5, 2, 6, 8, 10] .nil) [none, none, none, none, none, none] ?_
 simp only [(id F13), seval, cRat]
 repeat refine ob ?_
 refine ⟨_, (aCleanQ p m hp (by omega)), rfl, ?_⟩
 try unfold Later
 try simp only [(id F13), seval, cRat]
 repeat refine ob ?_
 refine ⟨_, (aCleanQ q n hq (by omega)), rfl, ?_⟩
 try unfold Later
 try simp only [(id F13), seval, cRat]
 repeat refine ob ?_
 refine awD (scT 0 8 (scq [21, 25, 27, 16, 18, 22, 28, 30, 33, 35, 36, 39] .nil)) [none, none, none, none, none, none, none, none, none, none, none, none, none, none, none, none, none, none, none, none] ?_
 simp only [(id F13), seval, cRat, strVal_natStr]
 repeat refine ob ?_
 refine ⟨_, (aDen q), rfl, ?_⟩
 try unfold Later
 try simp only [(id F13), seval, cRat, strVal_natStr]
 repeat refine ob ?_
 refine ⟨_, (aNMul (natStr p.num.natAbs) (natStr q.den) (by omega) (by omega)), rfl, ?_⟩
 try unfold Later
 try simp only [(id F13), seval, cRat, strVal_natStr]
 repeat refine ob ?_
 refine ⟨_, (aDen p), rfl, ?_⟩
 try unfold Later
 try simp only [(id F13), seval, cRat, strVal_natStr]
 repeat refine ob ?_
 refine ⟨_, (aNMul (natStr p.den) (natStr q.num.natAbs) (by omega) (by omega)), rfl, ?_⟩
 try unfold Later
 try simp only [(id F13), seval, cRat, strVal_natStr]
 repeat refine ob ?_
 refine ⟨_, hMk2, rfl, ?_⟩
 try unfold Later
 try simp only [(id F13), seval, cRat, strVal_natStr]
 repeat refine ob ?_
 refine awX ?_
 (first | (simp only [(id F13), seval, cRat]; done) | (simp only [(id F13), seval, cRat]; first | (simp []; done)))
def F14 := And.intro zS (And.intro tf44 (And.intro tf45 (And.intro tf46 (And.intro tf47 (And.intro tf18 (And.intro tf48 (tf49)))))))
set_option maxRecDepth 100000 in
set_option maxHeartbeats 4000000 in
theorem tAdd_I (H : Hp) (ny nm s sz n pn sp : Nat) (E : TypeId) (A B : List C) (t : WT) (c : Int) (x : Rat) (hsz : sz ≠ 0) (hnm : H nm = some ⟨s, E, sz, n, tcs A B (.own pn sp t.length 4) (enc (wSum t))⟩) (hp : H pn = some ⟨sp, 230, 4, t.length, flat cWP t⟩) (hne : nm ≠ pn) (F : ∀ k, 3000 ≤ k → k < 3015 → (nm = k) = False ∧ (k = nm) = False ∧ (pn = k) = False ∧ (k = pn) = False) (F1 : nm ≠ 3015)
  (hbH : ∀ y B, H y = some B → y < 3000 ∨ 3015 ≤ y) (hl : t.length ≤ 1000000) (hc : -1 ≤ c ∧ c ≤ 1000000) (h1 : qB 50000000000 (wSum t)) (h2 : qB 50000000000 x) : ACallI Tryz.prog 127 [.one (.ptr nm s A.length), .one (.lit (.int .i64 c)), .agg (cRat (enc x))] H ny
  (fun res H' _ => res = .tup [] ∧ ∀ y B', up (up (up H pn none) 3015 (some ⟨ny + 2, 230, 4, t.length + 1, flat cWP (t ++ [(c, x)])⟩)) nm (some ⟨s, E, sz, n, tcs A B (.own 3015 (ny + 2) (t.length + 1) 4) (enc (wSum t + x))⟩) y = some B' → H' y = some B') := by
 have G : (nm = 3015) = False ∧ (3015 = nm) = False ∧ (nm = pn) = False ∧ (pn = nm) = False := ⟨by simp [F1], by simp [F1.symm], by simp [hne], by simp [hne.symm]⟩
 have hA := aAddQ (wSum t) x 50000000000 50000000000 h1 h2 (by decide) (by decide)
 have ts1 := fun X => tcs_set1 A B X (enc (wSum t)) (enc (wSum t + x))
 simp only [cRat] at hA ts1
 refine acallI_of 3000 Tryz.func127 rfl (by decide) (N := 27) rfl (by simp) (Rl := []) rfl fun en k0 => ?_
 refine awN ?_
 simp only [(id F14), seval, cRat]
 repeat refine ob ?_
 refine awD (scT 0 8 (scq [16, 18, 21, 23, 24] .nil)) [none, none, none, none, none, none, none, none, none, none, none, none, none] ?_
 simp only [(id F14), seval, cRat, G, tcs_len A B, hnm, hp, F, tcs_0 A B, tcs_1 A B, tcs_get A B, tcs_set0 A B, cWP]
 repeat refine ob ?_
 refine awD (scT 0 6 (scq [12, 15, 17, 18] .nil)) [none, none, none, none, none, none, none, none, none, none] ?_
 simp only [(id F14), seval, cRat, G, hnm, hp, F, tcs_0 A B, tcs_1 A B, tcs_get A B, ts1, tcs_len A B, List.take_left]
 repeat refine ob ?_
 refine ⟨_, hA, rfl, ?_⟩
 try unfold Later
 try simp only [(id F14), seval, cRat, G, hnm, hp, F, tcs_0 A B, tcs_1 A B, tcs_get A B, ts1, tcs_len A B, List.take_left]
 repeat refine ob ?_
 try refine ⟨rfl, ?_⟩
 intro y B h
 try simp only [up_apply] at h ⊢
 by_cases hy : y = nm
 ·
  simp only [hy, if_true] at h ⊢
  exact h
 simp only [hy, if_false] at h ⊢
 by_cases hy2 : y = 3015
 ·
  simp only [hy2, if_true] at h ⊢
  simpa [flat_snoc, cWP, cRat] using h
 simp only [hy2, if_false] at h ⊢
 by_cases hy3 : y = pn
 ·
  simp only [hy3, if_true] at h ⊢
  exact h
 simp only [hy3, if_false] at h ⊢
 have h9 := hbH y B h
 repeat rw [if_neg (by omega)]
 exact h
def F15 := And.intro zS (And.intro tf50 (And.intro tf51 (And.intro tf52 (And.intro tf53 (And.intro tf54 (tf18))))))
set_option maxRecDepth 100000 in
set_option maxHeartbeats 4000000 in
theorem rAdd_I (H : Hp) (ny s sc n : Nat) (R : WR) (c : Int) (x : Rat) (h50 : H 50 = some ⟨s, 200, 4, 1, .own 48 sc n 3 :: cRat (enc R.rv)⟩) (h48 : H 48 = some ⟨sc, 32, 3, n, flat cQ R.cl⟩) (hn : R.cl.length = n) (hbH : ∀ y B, H y = some B → y < 9000) (hl : n ≤ 1000000) (hc : inR n c) (h1 : R.B 50000000000) (h2 : qB 50000000000 x) : ACallI Tryz.prog 167 [.one (.ptr 50 s 0), .one (.lit (.int .i64 c)), .agg (cRat (enc x))] H ny
  (fun res H' _ => res = .tup [] ∧ ∀ y B', mkOn H [(50, ⟨s, 200, 4, 1, .own 48 sc n 3 :: cRat (enc (R.add c x).rv)⟩), (48, ⟨sc, 32, 3, n, flat cQ (R.add c x).cl⟩)] y = some B' → H' y = some B') := by
 have hci : c = -1 ∨ 0 ≤ c ∧ c < n := hc
 refine acallI_of 9000 Tryz.func167 rfl (by decide) (N := 32) rfl (by simp) (Rl := []) rfl fun en k0 => ?_
 refine awN ?_
 simp only [(id F15), seval, cRat, h50, h48]
 repeat refine ob ?_
 by_cases hc0 : c = -1
 ·
  refine awN ?_
  simp only [(id F15), seval, cRat, h50, h48, hc0]
  repeat refine ob ?_
  refine awT ?_
  have hA1 := aAddQ R.rv x 50000000000 50000000000 h1.2 h2 (by decide) (by decide)
  simp only [cRat] at hA1
  refine awD (scT 0 6 (scq [12, 15, 17, 18] .nil)) [none, none, none, none, none, none, none, none, none, none] ?_
  simp only [(id F15), seval, cRat, h50, h48, hc0]
  repeat refine ob ?_
  refine ⟨_, hA1, rfl, ?_⟩
  try unfold Later
  try simp only [(id F15), seval, cRat, h50, h48, hc0]
  repeat refine ob ?_
  refine awX ?_
  simp only [(id F15), seval]
  try refine ⟨rfl, ?_⟩
  intro y B h
  simp only [mkOn, up_apply, WR.add, hc0, if_true] at h ⊢
  by_cases hy : y = 50
  ·
   subst hy
   first | exact h | (simpa [h50, cRat] using h)
  simp only [hy, if_false] at h ⊢
  by_cases hy2 : y = 48
  ·
   subst hy2
   first | exact h | (simpa [h48] using h)
  simp only [hy2, if_false] at h ⊢
  have h9 := hbH y B h
  repeat rw [if_neg (by omega)]
  exact h
 refine awN ?_
 simp only [(id F15), seval, cRat, h50, h48, hc0]
 repeat refine ob ?_
 refine awF ?_
 refine awK ?_
 simp only [(id F15), seval]
 obtain ⟨k, hk⟩ : ∃ k : Nat, c = (k : Int) := ⟨c.toNat, by omega⟩
 subst hk
 have hkn : k < R.cl.length := by omega
 have hat := flat_at cQ_len R.cl k hkn
 have hgd : R.cl.getD k 0 = R.cl[k] := by rw [List.getD_eq_getElem?_getD, List.getElem?_eq_getElem hkn]; rfl
 have hA2 := aAddQ R.cl[k] x 50000000000 50000000000 (h1.1 _ (List.getElem_mem hkn)) h2 (by decide) (by decide)
 have hset := flat_set cQ_len R.cl k (R.cl[k] + x) hkn
 have hfl := flat_length cQ_len R.cl
 simp only [cQ, cRat] at hA2 hset hat
 have hct : ((k : Int)).toNat = k := Int.toNat_natCast k
 refine awD (scT 0 13 (scq [26, 29, 30] .nil)) [none, none, none, none, none, none, none, none, none, none, none, none, none, none, none, none] ?_
 simp only [(id F15), seval, cRat, h50, h48, hc0, hct, hat, hset, hfl]
 repeat refine ob ?_
 refine ⟨_, hA2, rfl, ?_⟩
 try unfold Later
 try simp only [(id F15), seval, cRat, h50, h48, hc0, hct, hat, hset, hfl]
 repeat refine ob ?_
 try refine ⟨rfl, ?_⟩
 intro y B h
 simp only [mkOn, up_apply, WR.add, hc0, if_false, Int.toNat_natCast, hgd] at h ⊢
 by_cases hy : y = 50
 ·
  subst hy
  first | exact h | (simpa [h50, cRat] using h)
 simp only [hy, if_false] at h ⊢
 by_cases hy2 : y = 48
 ·
  subst hy2
  first | exact h | (simpa [h48] using h)
 simp only [hy2, if_false] at h ⊢
 have h9 := hbH y B h
 repeat rw [if_neg (by omega)]
 exact h
end Go.Proofs.YtokmkopihhnggaaGreatDoor
