/- The waterfall: ladders split, tiers shared, ladders paid, what the members have; walked by the abstract machine. -/
import Derived.Test.YtokmkopihhnggaaGreatDoorGu4M
set_option linter.unusedVariables false
set_option linter.unusedSimpArgs false
set_option linter.defProp false
namespace Go.Proofs.YtokmkopihhnggaaGreatDoor
open Go Go.RowKit
theorem aCmpQ (p q : Rat) (hp : qB 50000000000 p) (hq : qB 50000000000 q) : ACall Tryz.prog 34 [.agg (cRat (enc p)), .agg (cRat (enc q))] (one (.int .i64 (qCmp p q))) := by
 have h := aCompare (enc p) (enc q) 50000000000 50000000000 (sB_enc hp) (sB_enc hq) (by decide) (by decide) (by decide) (by decide)
 rwa [qOf_enc, qOf_enc] at h
def wSpk (k : Nat) (l : List WT) (m : Rat) : Nat × Rat := (k + (wSplit l m).1, (wSplit l m).2)
theorem wSpk_nil (k : Nat) (m : Rat) : wSpk k [] m = (k, m) := rfl
theorem wSpk_cons (k : Nat) (t : WT) (l : List WT) (m : Rat) : wSpk k (t :: l) m = if m < wSum t then (k, m) else wSpk (k + 1) l (m - wSum t) := by
 unfold wSpk
 by_cases h : m < wSum t
 ·simp [wSplit, h]
 simp only [wSplit, h, if_false]
 rw [Nat.add_assoc, Nat.add_comm 1]
theorem wSpk_zero (l : List WT) (m : Rat) : wSpk 0 l m = wSplit l m := by unfold wSpk; simp
theorem onW {H f : Hp} {b : Nat} (hbH : ∀ y B, H y = some B → y < b) (hf : ∀ x, x < b → x ≠ 50 → x ≠ 48 → f x = H x) (l : List Nat) (h1 : hasN l 50 = true) (h2 : hasN l 48 = true) : ∀ x B, H x = some B → hasN l x = true ∨ f x = some B := fun x B hB => by
 by_cases e1 : x = 50
 ·subst e1; exact .inl h1
 by_cases e2 : x = 48
 ·subst e2; exact .inl h2
 exact .inr (by rw [hf x (hbH x B hB) e1 e2]; exact hB)
noncomputable def spR (x : Nat × Rat) : AV := .tup [.one (.lit (.int .i64 (x.1 : Int))), .agg (cRat (enc x.2))]
def F16 := And.intro zS (And.intro tf55 (And.intro tf56 (And.intro tf46 (And.intro tf18 (And.intro tf57 (And.intro tf39 (tf58)))))))
set_option maxRecDepth 100000 in
set_option maxHeartbeats 4000000 in
theorem split_A (l : List WT) (m0 : Rat) (K S M : Nat) (hl : wOK K S l) (hM : qB M m0) (hS : S ≤ 50000000000) (hB : M + l.length * (S + 1) ≤ 50000000000) : ACall Tryz.prog 166 [.one (.sh 4 l.length (flat cWT l)), .agg (cRat (enc m0))] (spR (wSplit l m0)) := by
 refine acall_of Tryz.func166 rfl (by decide) (N := 30) rfl (by simp) (R := [.tmp 4, .cell 5 32]) rfl fun en k0 => ?_
 refine awN ?_
 simp only [(id F16), seval, cRat]
 repeat refine ob ?_
 refine awN ?_
 simp only [(id F16), seval, cRat]
 repeat refine ob ?_
 have hV0 : qB (M + 0 * (S + 1)) m0 := hM.mono (by omega)
 have hll := hl.1
 refine awp_keep [0, 3, 5, 8, 9, 10] [3, 5] ?_
 try unfold Later
 try simp only [(id F16), seval, cRat]
 repeat' first|apply awS|apply awB
 refine awp_loopw (fun n st => ∃ i0 m nx, i0 ≤ l.length ∧ n = l.length - i0 ∧ wSpk i0 (l.drop i0) m = wSpk 0 l m0 ∧ qB (M + i0 * (S + 1)) m ∧ st = ⟨mkT [(0, .val (.one (.sh 4 l.length (flat cWT l)))), (3, .val (.one (.ptr 3 0 0))), (5, .val (.one (.ptr 5 1 0))), (8, .val (.one (.sh 4 l.length (flat cWT l)))), (9, one (.int .i64 l.length)), (10, one (.int .i64 i0))], mkH [(3, ⟨0, 32, 3, 1, cRat (enc m)⟩), (5, ⟨1, 32, 3, 1, [.lit (.bool false), .lit (.string bEmpty), .lit (.string bEmpty)]⟩)], nx, 0⟩) (l.length) ⟨0, m0, _, by omega, by omega, by rfl, (by first | omega | assumption | rfl | simp | (simp; omega)), rfl⟩ ?_
 rintro n0 st ⟨i0, m, nx0, hk0, rfl, hL0, hV0_1, rfl⟩
 by_cases hlt0 : i0 < l.length
 ·
  have hI0 : (i0 : Int) < (l.length : Int) := by omega
  have hat0 := flat_at cWT_len l i0 hlt0
  try rw [Nat.mul_one] at hat0
  rw [List.drop_eq_getElem_cons hlt0] at hL0
  have hsz := hl.2 _ (List.getElem_mem hlt0)
  have hVm := hV0_1
  have hmul : (i0 + 1) * (S + 1) ≤ l.length * (S + 1) := Nat.mul_le_mul_right _ hlt0
  have hmul1 : (i0 + 1) * (S + 1) = i0 * (S + 1) + (S + 1) := Nat.succ_mul _ _
  have hnx := (hVm.sub hsz.2.1).mono (n := M + (i0 + 1) * (S + 1)) (by omega)
  generalize l[i0] = t at *
  simp only [wSpk_nil, wSpk_cons] at hL0
  refine awN ?_
  simp only [(id F16), seval, cRat, hI0, hat0]
  repeat refine ob ?_
  refine awT ?_
  refine awK ?_
  simp only [(id F16), seval]
  refine awN ?_
  simp only [(id F16), seval, cRat, hI0, hat0, cWT]
  repeat refine ob ?_
  by_cases hq : qCmp m (wSum t) < 0
  ·
   have hm : m < wSum t := (qCmp_neg_iff _ _).1 hq
   have hC := aCmpQ m (wSum t) (hVm.mono (by omega)) (hsz.2.1.mono (by omega))
   simp only [cRat] at hC
   refine awN ?_
   simp only [(id F16), seval, cRat, hI0, hat0, hq, hm, cWT]
   repeat refine ob ?_
   refine ⟨_, hC, rfl, ?_⟩
   try unfold Later
   try simp only [(id F16), seval, cRat, hI0, hat0, hq, hm, cWT]
   repeat refine ob ?_
   refine awT ?_
   refine awD (scq [1, 3, 5, 6] .nil) [none, none, none, none] ?_
   simp only [(id F16), seval, cRat, hI0, hat0, hq, hm]
   repeat refine ob ?_
   refine awX ?_
   simp only [(id F16), seval]
   rw [wSpk_zero] at hL0
   simp [← hL0, spR, hm, cRat]
  have hm : ¬ m < wSum t := fun h => hq ((qCmp_neg_iff _ _).2 h)
  have hC := aCmpQ m (wSum t) (hVm.mono (by omega)) (hsz.2.1.mono (by omega))
  simp only [cRat] at hC
  refine awN ?_
  simp only [(id F16), seval, cRat, hI0, hat0, hq, hm, cWT]
  repeat refine ob ?_
  refine ⟨_, hC, rfl, ?_⟩
  try unfold Later
  try simp only [(id F16), seval, cRat, hI0, hat0, hq, hm, cWT]
  repeat refine ob ?_
  refine awF ?_
  refine awK ?_
  simp only [(id F16), seval]
  have hA := aSubQ m (wSum t) _ _ hVm hsz.2.1 (by omega) (by omega)
  simp only [cRat] at hA
  refine awN ?_
  simp only [(id F16), seval, cRat, hI0, hat0, hq, hm, cWT]
  repeat refine ob ?_
  refine ⟨_, hA, rfl, ?_⟩
  try unfold Later
  try simp only [(id F16), seval, cRat, hI0, hat0, hq, hm, cWT]
  repeat refine ob ?_
  refine awN ?_
  simp only [(id F16), seval, cRat, hI0, hat0, hq, hm]
  repeat refine ob ?_
  repeat refine ob ?_
  refine ⟨_, wk_keep [0, 3, 5, 8, 9, 10] [3, 5], l.length - (i0 + 1), by omega, i0 + 1, (m - wSum t), ?a10_nx, by omega, rfl, ?i10_0, ?i10_1, ?st10⟩
  case st10 => (simp only [(id F16), seval, cRat, hI0, hat0, hq, hm]; first | rfl | (simp [hI0, hat0, hq, hm, Nat.add_mul]; done))
  case i10_0 => (first | exact hL0 | (rw [← hL0]; simp only [reduceIte, hI0, hat0, hq, hm]; done) | (rw [← hL0]; simp [hI0, hat0, hq, hm]; done) | (simp [hI0, hat0, hq, hm] at hL0; simpa using hL0) | (rw [← hL0]; simp [*]; done))
  case i10_1 => (first | omega | assumption | (simp; omega) | (simp_all; done))
 obtain rfl : i0 = l.length := by omega
 have hI0 : ¬ (l.length : Int) < (l.length : Int) := by omega
 rw [List.drop_length] at hL0
 simp only [wSpk_nil, wSpk_cons] at hL0
 refine awN ?_
 simp only [(id F16), seval, cRat, hI0]
 repeat refine ob ?_
 refine awF ?_
 refine awQ ?_
 simp only [(id F16), seval]
 refine awD (scT 0 4 (scq [8] .nil)) [none, none, none, none, none] ?_
 simp only [(id F16), seval, cRat, hI0]
 repeat refine ob ?_
 refine awX ?_
 simp only [(id F16), seval]
 rw [wSpk_zero] at hL0
 simp [← hL0, spR, cRat]
def F17 := And.intro zS (And.intro tf59 (And.intro tf44 (And.intro tf60 (And.intro tf61 (And.intro tf45 (And.intro tf46 (And.intro tf47 (And.intro tf18 (And.intro tf12 (And.intro tf62 (And.intro tf39 (tf49))))))))))))
set_option maxRecDepth 100000 in
set_option maxHeartbeats 4000000 in
theorem share_I (H : Hp) (ny s sc nn : Nat) (R0 : WR) (t : WT) (a : Rat) (K A Sm C Z : Nat) (h50 : H 50 = some ⟨s, 200, 4, 1, .own 48 sc nn 3 :: cRat (enc R0.rv)⟩) (h48 : H 48 = some ⟨sc, 32, 3, nn, flat cQ R0.cl⟩) (hR0 : R0.cl.length = nn) (hbH : ∀ y B, H y = some B → y < 8000) (hl : nn ≤ 1000000) (htl : t.length ≤ 1000) (hin : wIn nn t) (hA0 : qB A a) (hS0 : qB Sm (wSum t)) (hK : ∀ p ∈ t, qB K p.2) (hC : R0.B C) (hZ : K + (A + Sm) ≤ Z) (hB : C + t.length * (Z + 1) ≤ 50000000000) (hZb : Z ≤ 50000000000) : ACallI Tryz.prog 168 [.one (.ptr 50 s 0), .agg (cWT t), .agg (cRat (enc a))] H ny
  (fun res H' _ => res = .tup [] ∧ ∀ y B', mkOn H [(50, ⟨s, 200, 4, 1, .own 48 sc nn 3 :: cRat (enc (wPut (a / wSum t) t R0).rv)⟩), (48, ⟨sc, 32, 3, nn, flat cQ (wPut (a / wSum t) t R0).cl⟩)] y = some B' → H' y = some B') := by
 refine acallI_of 8000 Tryz.func168 rfl (by decide) (N := 33) rfl (by simp) (Rl := []) rfl fun en k0 => ?_
 refine awN ?_
 simp only [(id F17), seval, cRat, h50, h48, cWT]
 repeat refine ob ?_
 have hA := aDiv a (wSum t) A Sm hA0 hS0 (by omega) (by omega)
 simp only [cRat] at hA
 refine awN ?_
 simp only [(id F17), seval, cRat, h50, h48, cWT]
 repeat refine ob ?_
 refine ⟨_, hA, rfl, ?_⟩
 try unfold Later
 try simp only [(id F17), seval, cRat, h50, h48, cWT]
 repeat refine ob ?_
 refine awN ?_
 simp only [(id F17), seval, cRat, h50, h48, cWT]
 repeat refine ob ?_
 have hQ : qB (A + Sm) (a / wSum t) := hA0.div hS0
 generalize a / wSum t = q at *
 have hV0 : R0.B (C + 0 * (Z + 1)) := hC.mono (by omega)
 refine awp_on H [0, 6, 18, 19, 20] [50, 48, 8006] (onW hbH (fun x h1 h2 h3 => by simp only [up_apply]; repeat rw [if_neg (by omega)]) _ (by rfl) (by rfl)) ?_
 try unfold Later
 try simp only [(id F17), seval, cRat, h50, h48]
 repeat' first|apply awS|apply awB
 refine awp_loopw (fun n st => ∃ i0 R nx, i0 ≤ t.length ∧ n = t.length - i0 ∧ wPut q (t.drop i0) R = wPut q t R0 ∧ R.cl.length = nn ∧ R.B (C + i0 * (Z + 1)) ∧ st = ⟨mkT [(0, .val (.one (.ptr 50 s 0))), (6, .val (.one (.ptr 8006 (ny + 2) 0))), (18, .val (.one (.sh 4 t.length (flat cWP t)))), (19, one (.int .i64 t.length)), (20, one (.int .i64 i0))], mkOn H [(50, ⟨s, 200, 4, 1, .own 48 sc nn 3 :: cRat (enc R.rv)⟩), (48, ⟨sc, 32, 3, nn, flat cQ R.cl⟩), (8006, ⟨(ny + 2), 32, 3, 1, cRat (enc q)⟩)], nx, 8000⟩) (t.length) ⟨0, R0, _, by omega, by omega, by rfl, (by first | omega | assumption | rfl | simp | (simp; omega)), (by first | omega | assumption | rfl | simp | (simp; omega)), rfl⟩ ?_
 rintro n0 st ⟨i0, R, nx0, hk0, rfl, hL0, hV0_1, hV0_2, rfl⟩
 by_cases hlt0 : i0 < t.length
 ·skip
  have hI0 : (i0 : Int) < (t.length : Int) := by omega
  have hat0 := flat_at cWP_len t i0 hlt0
  try rw [Nat.mul_one] at hat0
  rw [List.drop_eq_getElem_cons hlt0] at hL0
  have hxm := (List.getElem_mem hlt0)
  have hRn := hV0_1
  have hRB := hV0_2
  have hmul : (i0 + 1) * (Z + 1) ≤ t.length * (Z + 1) := Nat.mul_le_mul_right _ hlt0
  have hmul1 : (i0 + 1) * (Z + 1) = i0 * (Z + 1) + (Z + 1) := Nat.succ_mul _ _
  have hnx := (wAdd_B hRB (t[i0]).1 (((hK _ hxm).mul hQ).mono hZ)).mono (n := C + (i0 + 1) * (Z + 1)) (by omega)
  have hnl := wAdd_len R (t[i0]).1 ((t[i0]).2 * q)
  generalize t[i0] = x at *
  simp only [wPut] at hL0
  refine awN ?_
  simp only [(id F17), seval, cRat, h50, h48, hI0, hat0]
  repeat refine ob ?_
  refine awT ?_
  refine awK ?_
  simp only [(id F17), seval]
  refine awN ?_
  simp only [(id F17), seval, cRat, h50, h48, hI0, hat0, cWP]
  repeat refine ob ?_
  have hA5 := aMulQ x.2 q _ _ (hK _ hxm) hQ (by omega) (by omega)
  simp only [cRat] at hA5
  repeat' first|apply awS|apply awB
  refine awp_drawsI [31] (by kernel_rfl) (.cons 0 true (.cons 1 true (.cons 2 true (.cons 3 true (.cons 4 true (.cons 5 true (.cons 6 false (.cons 7 false .nil)))))))) (by kernel_rfl) (gs := [none, none, none, none, none, none, none, none]) (by kernel_rfl) (by simp only [(id zS), seval]; rfl) (by decide) ?_
  simp only [(id F17), seval, cRat, h50, h48, hI0, hat0, cWP, (id SD)]
  repeat refine ob ?_
  refine ⟨_, hA5, rfl, ?_⟩
  try unfold Later
  try simp only [(id F17), seval, cRat, h50, h48, hI0, hat0, cWP]
  repeat refine ob ?_
  refine ⟨_, rAdd_I _ _ s sc nn R x.1 (x.2 * q) (by rfl) (by rfl) hRn (fun y B h => ?_) (by omega) (hin _ hxm) (hRB.mono (by omega)) (((hK _ hxm).mul hQ).mono (by omega)), ?_⟩
  ·simp only [up_apply] at h
   repeat (split at h; · omega)
   have h9 := hbH y B h
   omega
  rintro res H' nx' ⟨rfl, hW⟩
  simp only [(id F17), seval]
  repeat refine ob ?_
  refine awp_weak hW ?_
  simp only [(id F17), seval]
  refine awN ?_
  simp only [(id F17), seval, cRat, h50, h48, hI0, hat0]
  repeat refine ob ?_
  repeat refine ob ?_
  refine ⟨_, wk_on H [0, 6, 18, 19, 20] [50, 48, 8006] (onW hbH (fun x h1 h2 h3 => by simp only [up_apply]; repeat rw [if_neg (by omega)]) _ (by rfl) (by rfl)), t.length - (i0 + 1), by omega, i0 + 1, (R.add x.1 (x.2 * q)), ?a7_nx, by omega, rfl, ?i7_0, ?i7_1, ?i7_2, ?st7⟩
  case st7 => (simp only [(id F17), seval, cRat, h50, h48, hI0, hat0]; first | rfl | (simp [hI0, hat0, Nat.add_mul]; done))
  case i7_0 => (first | exact hL0 | (rw [← hL0]; simp only [reduceIte, hI0, hat0]; done) | (rw [← hL0]; simp [hI0, hat0]; done) | (simp [hI0, hat0] at hL0; simpa using hL0) | (rw [← hL0]; simp [*]; done))
  case i7_1 => (first | omega | assumption | (simp; omega) | (simp_all; done))
  case i7_2 => (first | omega | assumption | (simp; omega) | (simp_all; done))
 skip
 obtain rfl : i0 = t.length := by omega
 have hI0 : ¬ (t.length : Int) < (t.length : Int) := by omega
 rw [List.drop_length] at hL0
 simp only [wPut] at hL0
 refine awN ?_
 simp only [(id F17), seval, cRat, h50, h48, hI0]
 repeat refine ob ?_
 refine awF ?_
 refine awQ ?_
 simp only [(id F17), seval]
 try refine ⟨rfl, ?_⟩
 intro y B h
 simp only [← hL0] at h
 try simp only [mkOn, up_apply] at h ⊢
 by_cases hy : y = 50
 ·subst hy
  first | exact h | (simpa [h50, cRat] using h)
 simp only [hy, if_false] at h ⊢
 by_cases hy2 : y = 48
 ·subst hy2
  first | exact h | (simpa [h48] using h)
 simp only [hy2, if_false] at h ⊢
 have h9 := hbH y B h
 repeat rw [if_neg (by omega)]
 exact h
theorem wN_take_le (l : List WT) (k : Nat) : wN (l.take k) ≤ wN l := by
 have := wN_app (l.take k) (l.drop k)
 rw [List.take_append_drop] at this
 omega
def F18 := And.intro zS (And.intro tf59 (And.intro tf55 (And.intro tf44 (And.intro tf56 (And.intro tf60 (And.intro tf61 (And.intro tf45 (And.intro tf47 (And.intro tf18 (And.intro tf12 (And.intro tf62 (And.intro tf57 (And.intro tf39 (And.intro tf49 (tf58)))))))))))))))
set_option maxRecDepth 100000 in
set_option maxHeartbeats 4000000 in
theorem pay_I (H : Hp) (ny s sc nn : Nat) (R0 : WR) (l : List WT) (m : Rat) (K Sm M C Z : Nat) (h50 : H 50 = some ⟨s, 200, 4, 1, .own 48 sc nn 3 :: cRat (enc R0.rv)⟩) (h48 : H 48 = some ⟨sc, 32, 3, nn, flat cQ R0.cl⟩) (hR0 : R0.cl.length = nn) (hbH : ∀ y B, H y = some B → y < 7000) (hn : nn ≤ 1000000) (hl : wOK K Sm l) (hin : ∀ t ∈ l, wIn nn t) (hM : qB M m) (hC : R0.B C) (hZ : K + (M + l.length * (Sm + 1)) + Sm ≤ Z) (hB : C + wN l * (Z + 1) ≤ 50000000000) (hZb : Z ≤ 40000000000) : ACallI Tryz.prog 131 [.one (.sh 4 l.length (flat cWT l)), .agg (cRat (enc m)), .one (.ptr 50 s 0)] H ny
  (fun res H' _ => res = .tup [] ∧ ∀ y B', mkOn H [(50, ⟨s, 200, 4, 1, .own 48 sc nn 3 :: cRat (enc (wPay l m R0).rv)⟩), (48, ⟨sc, 32, 3, nn, flat cQ (wPay l m R0).cl⟩)] y = some B' → H' y = some B') := by
 obtain ⟨fu, lf, hsp⟩ : ∃ fu lf, wSplit l m = (fu, lf) := ⟨_, _, rfl⟩
 have hfl : fu ≤ l.length := by have := wSplit_le l m; rw [hsp] at this; exact this
 have hlfB := wSplit_B l m M (fun t ht => (hl.2 t ht).2.1) hM
 rw [hsp] at hlfB
 simp only at hlfB
 obtain ⟨l1, hl1⟩ : ∃ l1, l1 = l.take fu := ⟨_, rfl⟩
 have hl1n : l1.length = fu := by rw [hl1, List.length_take]; omega
 subst hl1n
 have hft : List.take (l1.length * 4) (flat cWT l) = flat cWT l1 := by rw [flat_take cWT_len, ← hl1]
 have hll := hl.1
 have hwl0 : wN l ≤ 1000000 := by
  have h1 : ∀ l : List WT, (∀ t ∈ l, t.length ≤ 1000) → wN l ≤ l.length * 1000 := by
   intro l
   induction l with
   | nil => intro _; simp [wN]
   | cons t l ih =>
    intro h
    have h1 := ih fun x hx => h x (by simp [hx])
    have h2 := h t (by simp)
    simp only [wN, List.length_cons]
    omega
  have := h1 l fun t ht => (hl.2 t ht).1
  omega
 refine acallI_of 7000 Tryz.func131 rfl (by decide) (N := 52) rfl (by simp) (Rl := []) rfl fun en k0 => ?_
 refine awN ?_
 simp only [(id F18), seval, cRat, h50, h48]
 repeat refine ob ?_
 have hA := split_A l m K Sm M hl hM (by omega) (by omega)
 rw [hsp] at hA
 simp only [spR, cRat] at hA
 refine awN ?_
 simp only [(id F18), seval, cRat, h50, h48, flat_pure cWT_pure]
 repeat refine ob ?_
 refine ⟨_, hA, (by first | rfl | simp [allA, pure1, pureCs, pureC, A1.cells, flat_pure cWT_pure]), ?_⟩
 try unfold Later
 try simp only [(id F18), seval, cRat, h50, h48, flat_pure cWT_pure]
 repeat refine ob ?_
 refine awN ?_
 simp only [(id F18), seval, cRat, h50, h48, hft, Nat.sub_zero]
 repeat refine ob ?_
 have hV0 : R0.B (C + 0 * (K + 1)) := hC.mono (by omega)
 refine awp_on H [0, 2, 6, 7, 20, 21, 22] [50, 48, 7007] (onW hbH (fun x h1 h2 h3 => by simp only [up_apply]; repeat rw [if_neg (by omega)]) _ (by rfl) (by rfl)) ?_
 try unfold Later
 try simp only [(id F18), seval, cRat, h50, h48]
 repeat' first|apply awS|apply awB
 refine awp_loopw (fun n st => ∃ i0 R w nx, i0 ≤ l1.length ∧ n = l1.length - i0 ∧ wFulls (l1.drop i0) R = wFulls l1 R0 ∧ R.cl.length = nn ∧ R.B (C + w * (K + 1)) ∧ w + wN (l1.drop i0) = wN l1 ∧ st = ⟨mkT [(0, .val (.one (.sh 4 l.length (flat cWT l)))), (2, .val (.one (.ptr 50 s 0))), (6, one (.int .i64 l1.length)), (7, .val (.one (.ptr 7007 (ny + 1) 0))), (20, .val (.one (.sh 4 l1.length (flat cWT l1)))), (21, one (.int .i64 l1.length)), (22, one (.int .i64 i0))], mkOn H [(50, ⟨s, 200, 4, 1, .own 48 sc nn 3 :: cRat (enc R.rv)⟩), (48, ⟨sc, 32, 3, nn, flat cQ R.cl⟩), (7007, ⟨ny + 1, 32, 3, 1, cRat (enc lf)⟩)], nx, 7000⟩) (l1.length) ⟨0, R0, 0, _, by omega, by omega, by rfl, (by first | omega | assumption | rfl | simp | (simp; omega)), (by first | omega | assumption | rfl | simp | (simp; omega)), (by first | omega | assumption | rfl | simp | (simp; omega)), rfl⟩ ?_
 rintro n0 st ⟨i0, R, w, nx0, hk0, rfl, hL0, hV0_1, hV0_2, hV0_3, rfl⟩
 by_cases hlt0 : i0 < l1.length
 ·
  have hI0 : (i0 : Int) < (l1.length : Int) := by omega
  have hat0 := flat_at cWT_len l1 i0 hlt0
  try rw [Nat.mul_one] at hat0
  rw [List.drop_eq_getElem_cons hlt0] at hL0
  have htm : l1[i0] ∈ l := List.mem_of_mem_take (i := l1.length) (by rw [← hl1]; exact (List.getElem_mem hlt0))
  have hsz := hl.2 _ htm
  have hRn := hV0_1
  have hRB := hV0_2
  have hw0 := hV0_3
  rw [List.drop_eq_getElem_cons hlt0] at hw0
  simp only [wN] at hw0
  have hmw : (w + (l1[i0]).length) * (K + 1) = w * (K + 1) + (l1[i0]).length * (K + 1) := Nat.add_mul _ _ _
  have hwl2 : w + (l1[i0]).length ≤ wN l := by have := wN_take_le l l1.length; rw [← hl1] at this; omega
  have hm1 : (w + (l1[i0]).length) * (K + 1) ≤ wN l * (Z + 1) := Nat.mul_le_mul hwl2 (by omega)
  generalize l1[i0] = t at *
  simp only [wFulls] at hL0
  refine awN ?_
  simp only [(id F18), seval, cRat, h50, h48, hI0, hat0]
  repeat refine ob ?_
  refine awT ?_
  refine awK ?_
  simp only [(id F18), seval]
  refine awN ?_
  simp only [(id F18), seval, cRat, h50, h48, hI0, hat0, cWT]
  repeat refine ob ?_
  refine awN ?_
  simp only [(id F18), seval, cRat, h50, h48, hI0, hat0, cWT]
  repeat refine ob ?_
  have hV1 : R.B (C + w * (K + 1) + 0 * (K + 1)) := hRB.mono (by omega)
  refine awp_on H [0, 2, 6, 7, 20, 21, 22, 27, 28, 29] [50, 48, 7007] (onW hbH (fun x h1 h2 h3 => by simp only [up_apply]; repeat rw [if_neg (by omega)]) _ (by rfl) (by rfl)) ?_
  try unfold Later
  try simp only [(id F18), seval, cRat, h50, h48, hI0, hat0]
  repeat' first|apply awS|apply awB
  refine awp_loopw (fun n st => ∃ i1 R2 nx, i1 ≤ t.length ∧ n = t.length - i1 ∧ wFull (t.drop i1) R2 = wFull t R ∧ R2.cl.length = nn ∧ R2.B (C + w * (K + 1) + i1 * (K + 1)) ∧ st = ⟨mkT [(0, .val (.one (.sh 4 l.length (flat cWT l)))), (2, .val (.one (.ptr 50 s 0))), (6, one (.int .i64 l1.length)), (7, .val (.one (.ptr 7007 (ny + 1) 0))), (20, .val (.one (.sh 4 l1.length (flat cWT l1)))), (21, one (.int .i64 l1.length)), (22, one (.int .i64 i0)), (27, .val (.one (.sh 4 t.length (flat cWP t)))), (28, one (.int .i64 t.length)), (29, one (.int .i64 i1))], mkOn H [(50, ⟨s, 200, 4, 1, .own 48 sc nn 3 :: cRat (enc R2.rv)⟩), (48, ⟨sc, 32, 3, nn, flat cQ R2.cl⟩), (7007, ⟨ny + 1, 32, 3, 1, cRat (enc lf)⟩)], nx, 7000⟩) (t.length) ⟨0, R, _, by omega, by omega, by rfl, (by first | omega | assumption | rfl | simp | (simp; omega)), (by first | omega | assumption | rfl | simp | (simp; omega)), rfl⟩ ?_
  rintro n1 st ⟨i1, R2, nx1, hk1, rfl, hL1, hV1_1, hV1_2, rfl⟩
  by_cases hlt1 : i1 < t.length
  ·
   have hI1 : (i1 : Int) < (t.length : Int) := by omega
   have hat1 := flat_at cWP_len t i1 hlt1
   try rw [Nat.mul_one] at hat1
   rw [List.drop_eq_getElem_cons hlt1] at hL1
   have hxm := (List.getElem_mem hlt1)
   have hRn2 := hV1_1
   have hRB2 := hV1_2
   have hmul : (i1 + 1) * (K + 1) ≤ t.length * (K + 1) := Nat.mul_le_mul_right _ hlt1
   have hmul1 : (i1 + 1) * (K + 1) = i1 * (K + 1) + (K + 1) := Nat.succ_mul _ _
   have hnx := (wAdd_B hRB2 (t[i1]).1 (hsz.2.2 _ hxm)).mono (n := C + w * (K + 1) + (i1 + 1) * (K + 1)) (by omega)
   have hnl := wAdd_len R2 (t[i1]).1 (t[i1]).2
   generalize t[i1] = x at *
   simp only [wFull] at hL1
   refine awN ?_
   simp only [(id F18), seval, cRat, h50, h48, hI0, hat0, hI1, hat1]
   repeat refine ob ?_
   refine awT ?_
   refine awK ?_
   simp only [(id F18), seval]
   refine awN ?_
   simp only [(id F18), seval, cRat, h50, h48, hI0, hat0, hI1, hat1, cWP]
   repeat refine ob ?_
   refine awR [38] [none, none, none, none, none, none] ?_
   simp only [(id F18), seval, cRat, h50, h48, hI0, hat0, hI1, hat1, cWP]
   repeat refine ob ?_
   refine ⟨_, rAdd_I _ _ s sc nn R2 x.1 x.2 (by rfl) (by rfl) hRn2 (fun y B h => ?_) (by omega) (hin _ htm _ hxm) (hRB2.mono (by omega)) ((hsz.2.2 _ hxm).mono (by omega)), ?_⟩
   ·
    simp only [up_apply] at h
    repeat (split at h; · omega)
    have h9 := hbH y B h
    omega
   rintro res H' nx' ⟨rfl, hW⟩
   simp only [(id F18), seval]
   repeat refine ob ?_
   refine awp_weak hW ?_
   simp only [(id F18), seval]
   refine awN ?_
   simp only [(id F18), seval, cRat, h50, h48, hI0, hat0, hI1, hat1]
   repeat refine ob ?_
   repeat refine ob ?_
   refine ⟨_, wk_on H [0, 2, 6, 7, 20, 21, 22, 27, 28, 29] [50, 48, 7007] (onW hbH (fun x h1 h2 h3 => by simp only [up_apply]; repeat rw [if_neg (by omega)]) _ (by rfl) (by rfl)), t.length - (i1 + 1), by omega, i1 + 1, (R2.add x.1 x.2), ?a10_nx, by omega, rfl, ?i10_0, ?i10_1, ?i10_2, ?st10⟩
   case st10 => (simp only [(id F18), seval, cRat, h50, h48, hI0, hat0, hI1, hat1]; first | rfl | (simp [hI0, hat0, hI1, hat1, Nat.add_mul]; done))
   case i10_0 => (first | exact hL1 | (rw [← hL1]; simp only [reduceIte, hI0, hat0, hI1, hat1]; done) | (rw [← hL1]; simp [hI0, hat0, hI1, hat1]; done) | (simp [hI0, hat0, hI1, hat1] at hL1; simpa using hL1) | (rw [← hL1]; simp [*]; done))
   case i10_1 => (first | omega | assumption | (simp; omega) | (simp_all; done))
   case i10_2 => (first | omega | assumption | (simp; omega) | (simp_all; done))
  obtain rfl : i1 = t.length := by omega
  have hI1 : ¬ (t.length : Int) < (t.length : Int) := by omega
  rw [List.drop_length] at hL1
  simp only [wFull] at hL1
  have hV1e : R2.B (C + (w + t.length) * (K + 1)) := hV1_2.mono (by omega)
  refine awN ?_
  simp only [(id F18), seval, cRat, h50, h48, hI0, hat0, hI1]
  repeat refine ob ?_
  refine awF ?_
  refine awQ ?_
  simp only [(id F18), seval]
  refine awN ?_
  simp only [(id F18), seval, cRat, h50, h48, hI0, hat0, hI1]
  repeat refine ob ?_
  repeat refine ob ?_
  refine ⟨_, wk_on H [0, 2, 6, 7, 20, 21, 22] [50, 48, 7007] (onW hbH (fun x h1 h2 h3 => by simp only [up_apply]; repeat rw [if_neg (by omega)]) _ (by rfl) (by rfl)), l1.length - (i0 + 1), by omega, i0 + 1, (R2), (w + t.length), ?a13_nx, by omega, rfl, ?i13_0, ?i13_1, ?i13_2, ?i13_3, ?st13⟩
  case st13 => (simp only [(id F18), seval, cRat, h50, h48, hI0, hat0, hI1]; first | rfl | (simp [hI0, hat0, hI1, Nat.add_mul]; done))
  case i13_0 => (first | exact hL0 | (rw [← hL0]; simp [hI0, hat0, hI1, ← hL1]; done) | (rw [← hL0]; simp only [reduceIte, hI0, hat0, hI1]; done) | (rw [← hL0]; simp [hI0, hat0, hI1]; done) | (simp [hI0, hat0, hI1] at hL0; simpa using hL0) | (rw [← hL0]; simp [*]; done))
  case i13_1 => (first | omega | assumption | (simp; omega) | (simp_all; done))
  case i13_2 => (first | omega | assumption | (simp; omega) | (simp_all; done))
  case i13_3 => (first | omega | assumption | (simp; omega) | (simp_all; done))
 obtain rfl : i0 = l1.length := by omega
 have hI0 : ¬ (l1.length : Int) < (l1.length : Int) := by omega
 rw [List.drop_length] at hL0
 simp only [wFulls] at hL0
 refine awN ?_
 simp only [(id F18), seval, cRat, h50, h48, hI0]
 repeat refine ob ?_
 refine awF ?_
 refine awQ ?_
 simp only [(id F18), seval]
 by_cases hk : (l1.length : Int) < (l.length : Int)
 ·
  refine awN ?_
  simp only [(id F18), seval, cRat, h50, h48, hI0, hk]
  repeat refine ob ?_
  refine awT ?_
  have hkl : l1.length < l.length := by omega
  have hat := flat_at cWT_len l l1.length hkl
  obtain ⟨t, ht⟩ : ∃ t, l[l1.length] = t := ⟨_, rfl⟩
  rw [ht] at hat
  have htm : t ∈ l := ht ▸ List.getElem_mem hkl
  have hgt : l.getD l1.length [] = t := by rw [List.getD_eq_getElem?_getD, List.getElem?_eq_getElem hkl, ht]; rfl
  have hRn := hV0_1
  have hsz := hl.2 t htm
  have hwl : w + t.length ≤ wN l := by have h8 := wN_at l l1.length hkl; rw [← hl1, ht] at h8; omega
  have hm1 : w * (K + 1) ≤ w * (Z + 1) := Nat.mul_le_mul_left _ (by omega)
  have hm2 : (w + t.length) * (Z + 1) ≤ wN l * (Z + 1) := Nat.mul_le_mul_right _ hwl
  have hm3 : (w + t.length) * (Z + 1) = w * (Z + 1) + t.length * (Z + 1) := Nat.add_mul _ _ _
  repeat' first|apply awS|apply awB
  refine awp_drawsI [51] (by kernel_rfl) (.cons 0 true (.cons 1 true (.cons 2 true (.cons 3 true (.cons 4 true (.cons 5 true (.cons 6 false .nil))))))) (by kernel_rfl) (gs := [none, none, none, none, none, none, none]) (by kernel_rfl) (by simp only [(id zS), seval]; rfl) (by decide) ?_
  simp only [(id F18), seval, cRat, h50, h48, hI0, hk, hat, cWT, (id SD)]
  repeat refine ob ?_
  refine ⟨_, share_I _ _ s sc nn R t lf K (M + l.length * (Sm + 1)) Sm (C + w * (K + 1)) Z (by rfl) (by rfl) hRn (fun y B h => ?_) (by omega) hsz.1 (hin _ htm) hlfB hsz.2.1 hsz.2.2 hV0_2 (by omega) (by omega) (by omega), ?_⟩
  ·
   simp only [up_apply] at h
   repeat (split at h; · omega)
   have h9 := hbH y B h
   omega
  rintro res H' nx' ⟨rfl, hW⟩
  simp only [(id F18), seval, (id SD)]
  repeat refine ob ?_
  try refine ⟨rfl, ?_⟩
  intro y B h
  have hpay : wPay l m R0 = wPut (lf / wSum t) t R := by unfold wPay wShare; rw [hsp]; simp only; rw [if_pos hkl, hgt, ← hl1, ← hL0]
  rw [hpay] at h
  refine hW y B ?_
  try simp only [mkOn, up_apply] at h ⊢
  by_cases hy : y = 50
  ·
   subst hy
   first | exact h | (simpa [h50, cRat] using h)
  simp only [hy, if_false] at h ⊢
  by_cases hy2 : y = 48
  ·
   subst hy2
   first | exact h | (simpa [h48] using h)
  simp only [hy2, if_false] at h ⊢
  have h9 := hbH y B h
  repeat rw [if_neg (by omega)]
  exact h
 refine awN ?_
 simp only [(id F18), seval, cRat, h50, h48, hI0, hk]
 repeat refine ob ?_
 refine awF ?_
 refine awK ?_
 simp only [(id F18), seval]
 try refine ⟨rfl, ?_⟩
 intro y B h
 have hpay : wPay l m R0 = R := by unfold wPay wShare; rw [hsp]; simp only; rw [if_neg (by omega), ← hl1, ← hL0]
 rw [hpay] at h
 try simp only [mkOn, up_apply] at h ⊢
 by_cases hy : y = 50
 ·
  subst hy
  first | exact h | (simpa [h50, cRat] using h)
 simp only [hy, if_false] at h ⊢
 by_cases hy2 : y = 48
 ·
  subst hy2
  first | exact h | (simpa [h48] using h)
 simp only [hy2, if_false] at h ⊢
 have h9 := hbH y B h
 repeat rw [if_neg (by omega)]
 exact h
def F19 := And.intro zS (And.intro tf50 (And.intro tf22 (And.intro tf51 (And.intro tf7 (And.intro tf63 (And.intro tf64 (And.intro tf18 (And.intro tf12 (And.intro tf38 (tf39))))))))))
set_option maxRecDepth 100000 in
set_option maxHeartbeats 4000000 in
theorem total_A (p : WPool) (g : List Rat) (gn : Nat) (hgn : g.length = gn) (G : Nat) (hi : ∀ i ∈ p.1, 0 ≤ i ∧ i < (g.length : Int)) (hG : ∀ x ∈ g, qB G x) (hGb : G ≤ 50000000000) (hn : p.1.length ≤ 1000000) (hgl : g.length ≤ 1000000) (hB : 1 + p.1.length * (G + 1) ≤ 100000000000) : ACall Tryz.prog 132 [.agg (cPool p), .one (.sh 3 gn (flat cQ g))] (.val (.agg (cRat (enc (wTot g p.1))))) := by
 subst hgn
 refine acall_of Tryz.func132 rfl (by decide) (N := 24) rfl (by simp) (R := [.cell 4 32]) rfl fun en k0 => ?_
 refine awN ?_
 simp only [(id F19), seval, cRat, cPool]
 repeat refine ob ?_
 refine awN ?_
 simp only [(id F19), seval, cRat]
 repeat refine ob ?_
 refine awN ?_
 simp only [(id F19), seval, cRat, cPool]
 repeat refine ob ?_
 refine awp_wk (wk_cells 5 (cRat (enc 0)) (by rfl) (by show (3 : Nat) ≠ 0; decide) (by rfl) (fun κ vs h => by rw [enc0_cells]; exact h)) ?_
 have hq0 : qB (1 + 0 * (G + 1)) (0 : Rat)   := qB_zero.mono (by omega)
 simp only [(id F19), seval]
 refine awp_keep [1, 4, 5, 10, 11, 12] [4, 5] ?_
 try unfold Later
 try simp only [(id F19), seval, cRat]
 repeat' first|apply awS|apply awB
 refine awp_loopw (fun n st => ∃ i0 q nx, i0 ≤ p.1.length ∧ n = p.1.length - i0 ∧ q + wTot g (p.1.drop i0) = 0 + wTot g p.1 ∧ qB (1 + i0 * (G + 1)) q ∧ st = ⟨mkT [(1, .val (.one (.sh 3 g.length (flat cQ g)))), (4, .val (.one (.ptr 4 1 0))), (5, .val (.one (.ptr 5 2 0))), (10, .val (.one (.sh 1 p.1.length (flat cI p.1)))), (11, one (.int .i64 p.1.length)), (12, one (.int .i64 i0))], mkH [(4, ⟨1, 32, 3, 1, [.lit (.bool false), .lit (.string bEmpty), .lit (.string bEmpty)]⟩), (5, ⟨2, 32, 3, 1, cRat (enc q)⟩)], nx, 0⟩) (p.1.length) ⟨0, 0, _, by omega, by omega, by rfl, (by first | omega | assumption | rfl | simp | (simp; omega)), rfl⟩ ?_
 rintro n0 st ⟨i0, q, nx0, hk0, rfl, hL0, hV0_1, rfl⟩
 by_cases hlt0 : i0 < p.1.length
 ·
  have hI0 : (i0 : Int) < (p.1.length : Int) := by omega
  have hat0 := flat_at cI_len p.1 i0 hlt0
  try rw [Nat.mul_one] at hat0
  rw [List.drop_eq_getElem_cons hlt0] at hL0
  obtain ⟨k, hxk⟩ : ∃ k : Nat, p.1[i0] = (k : Int) := ⟨(p.1[i0]).toNat, by have := hi _ (List.getElem_mem hlt0); omega⟩
  have hkg : k < g.length := by have := hi _ (List.getElem_mem hlt0); omega
  have hVq := hV0_1
  have hmul : (i0 + 1) * (G + 1) ≤ p.1.length * (G + 1) := Nat.mul_le_mul_right _ hlt0
  have hmul1 : (i0 + 1) * (G + 1) = i0 * (G + 1) + (G + 1) := Nat.succ_mul _ _
  have hnx := (hVq.add (hG _ (List.getElem_mem hkg))).mono (n := 1 + (i0 + 1) * (G + 1)) (by omega)
  have hgk : g.getD k 0 = g[k] := by rw [List.getD_eq_getElem?_getD, List.getElem?_eq_getElem hkg]; rfl
  simp only [hxk, Int.toNat_natCast] at *
  generalize p.1[i0] = x at *
  simp only [wTot] at hL0
  refine awN ?_
  simp only [(id F19), seval, cRat, hI0, hat0]
  repeat refine ob ?_
  refine awT ?_
  refine awK ?_
  simp only [(id F19), seval]
  refine awN ?_
  simp only [(id F19), seval, cRat, hI0, hat0, cI]
  repeat refine ob ?_
  have hA := aAddQ q g[k] _ G hVq (hG _ (List.getElem_mem hkg)) (by omega) (by omega)
  simp only [cRat] at hA
  have hatg := flat_at cQ_len g k hkg
  simp only [cQ, cRat] at hatg
  refine awD (scT 0 5 (scq [10, 12] .nil)) [none, none, none, none, none, none, none] ?_
  simp only [(id F19), seval, cRat, hI0, hat0, hatg]
  repeat refine ob ?_
  refine ⟨_, hA, rfl, ?_⟩
  try unfold Later
  try simp only [(id F19), seval, cRat, hI0, hat0, hatg]
  repeat refine ob ?_
  refine awN ?_
  simp only [(id F19), seval, cRat, hI0, hat0]
  repeat refine ob ?_
  repeat refine ob ?_
  refine ⟨_, wk_keep [1, 4, 5, 10, 11, 12] [4, 5], p.1.length - (i0 + 1), by omega, i0 + 1, (q + g[k]), ?a7_nx, by omega, rfl, ?i7_0, ?i7_1, ?st7⟩
  case st7 => (simp only [(id F19), seval, cRat, hI0, hat0]; first | rfl | (simp [hI0, hat0, Nat.add_mul]; done))
  case i7_0 => (simp only [wTot, Int.toNat_natCast, hgk] at hL0; rw [← hL0]; grind)
  case i7_1 => (first | omega | assumption | (simp; omega) | (simp_all; done))
 obtain rfl : i0 = p.1.length := by omega
 have hI0 : ¬ (p.1.length : Int) < (p.1.length : Int) := by omega
 rw [List.drop_length] at hL0
 simp only [wTot] at hL0
 refine awN ?_
 simp only [(id F19), seval, cRat, hI0]
 repeat refine ob ?_
 refine awF ?_
 refine awQ ?_
 simp only [(id F19), seval]
 refine awN ?_
 simp only [(id F19), seval, cRat, hI0]
 repeat refine ob ?_
 refine awX ?_
 simp only [(id F19), seval]
 have hq9 : q = wTot g p.1 := by grind
 simp [hq9, cRat]
end Go.Proofs.YtokmkopihhnggaaGreatDoor
