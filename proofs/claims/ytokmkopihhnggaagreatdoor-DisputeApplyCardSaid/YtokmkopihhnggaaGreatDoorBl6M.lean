/- The groups that are built: short numbers, few elements. No program in sight. -/
import Derived.Test.YtokmkopihhnggaaGreatDoorBl5M
import Derived.Test.YtokmkopihhnggaaGreatDoorRw6M
import Derived.Test.YtokmkopihhnggaaGreatDoorBl3M
import Derived.Test.YtokmkopihhnggaaGreatDoorLawM
set_option linter.unusedVariables false
set_option linter.unusedSimpArgs false
namespace Go.Proofs.YtokmkopihhnggaaGreatDoor
open Go Go.RowKit
theorem ratOK_gZ : ratOK gZ := ⟨by decide, by decide⟩
theorem ratOK_enc {q : Rat} (h : qB 1 q) : ratOK (enc q) := by
 have := sB_enc h
 unfold ratOK sB at *
 omega
theorem qB_small (n : Nat) (h : n < 256) : qB 1 (((n : Nat) : Int) : Rat) := ⟨by simp; omega, by simp⟩
def okQ (e : GEst) : Prop := ratOK e.cash ∧ (∀ c ∈ e.claims, ratOK c.amount) ∧ ∀ a ∈ e.agrs, ∀ t ∈ a, ∀ p ∈ t, ratOK p.cap
theorem okQ_zt : okQ ztEst := ⟨ratOK_gZ, by simp [ztEst], by simp [ztEst]⟩
theorem mkEst_okQ (cash : List Nat) (i : Nat) : okQ (mkEst cash i) := by
 refine ⟨?_, by simp [mkEst], by simp [mkEst]⟩
 unfold mkEst
 dsimp only
 split
 ·exact ratOK_enc (amt_qB _)
 exact ratOK_gZ
theorem addClaim_okQ (size : Nat) (es : List GEst) (x : N4) (h : ∀ e ∈ es, okQ e) : ∀ e ∈ addClaim size es x, okQ e := by
 unfold addClaim
 split
 ·exact h
 have h0 := getD_ok h okQ_zt (x.a % size)
 generalize es.getD (x.a % size) ztEst = e at *
 refine set_ok h _ ⟨h0.1, fun c hc => ?_, h0.2.2⟩
 rcases List.mem_append.1 hc with h1 | h1
 ·exact h0.2.1 c h1
 obtain rfl : c = mkClaim size x := by simpa using h1
 exact ratOK_enc (amt_qB _)
def okT (T : T3) : Prop := (∀ p ∈ T.a, ratOK p.cap) ∧ (∀ p ∈ T.b, ratOK p.cap) ∧ ∀ p ∈ T.c, ratOK p.cap
theorem put_okT (T : T3) (x : Nat) (p : GPart) (h : okT T) (hp : ratOK p.cap) : okT (T.put x p) := by
 unfold T3.put
 have key : ∀ l : List GPart, (∀ q ∈ l, ratOK q.cap) → ∀ q ∈ l ++ [p], ratOK q.cap := fun l hl q hq => by
  rcases List.mem_append.1 hq with h1 | h1
  ·exact hl q h1
  obtain rfl : q = p := by simpa using h1
  exact hp
 split
 ·exact ⟨key _ h.1, h.2.1, h.2.2⟩
 split
 ·exact ⟨h.1, key _ h.2.1, h.2.2⟩
 exact ⟨h.1, h.2.1, key _ h.2.2⟩
theorem bgP_ok (p : N3) (i : Nat) : ratOK (bgP p i).cap := by
 unfold bgP
 split
 ·exact ratOK_enc (qB_small _ (by omega))
 exact ratOK_gZ
theorem bgL_okT (agrs : List GAgr) (p : N3) : ∀ (l : List GClaim) (i : Nat) (T : T3), okT T → okT (bgL agrs p l i T)
 | [], _, _, h => h
 | _ :: l, i, T, h => by
  refine bgL_okT agrs p l (i + 1) _ ?_
  unfold bgS
  split
  ·exact h
  split
  ·exact put_okT _ _ _ h (bgP_ok p i)
  exact h
theorem bgN_okQ (e : GEst) (p : N3) : ∀ t ∈ bgN e p, ∀ q ∈ t, ratOK q.cap := by
 have h1 : okT (bgT p (bgL e.agrs p e.claims 0 ⟨[], [], []⟩)) := by
  have h0 := bgL_okT e.agrs p e.claims 0 ⟨[], [], []⟩ ⟨by simp, by simp, by simp⟩
  unfold bgT
  split
  ·exact put_okT _ _ _ h0 (ratOK_enc (qB_small _ (by omega)))
  exact h0
 intro t ht q hq
 simp only [bgN, List.mem_cons, List.not_mem_nil, or_false] at ht
 rcases ht with rfl | rfl | rfl
 ·exact h1.1 q hq
 ·exact h1.2.1 q hq
 exact h1.2.2 q hq
theorem addAg_okQ (size : Nat) (es : List GEst) (p : N3) (h : ∀ e ∈ es, okQ e) : ∀ e ∈ addAg size es p, okQ e := by
 unfold addAg
 split
 ·have h0 := getD_ok h okQ_zt (p.a % size)
  generalize es.getD (p.a % size) ztEst = e at *
  refine set_ok h _ ⟨h0.1, h0.2.1, fun a ha t ht q hq => ?_⟩
  rcases List.mem_append.1 ha with h1 | h1
  ·exact h0.2.2 a h1 t ht q hq
  obtain rfl : a = bgN e p := by simpa using h1
  exact bgN_okQ e p t ht q hq
 exact h
theorem foldl_ok {α : Type} {Pr : GEst → Prop} (f : List GEst → α → List GEst) (hf : ∀ es x, (∀ e ∈ es, Pr e) → ∀ e ∈ f es x, Pr e) : ∀ (l : List α) (es : List GEst), (∀ e ∈ es, Pr e) → ∀ e ∈ l.foldl f es, Pr e
 | [], _, h => h
 | x :: l, es, h => foldl_ok f hf l (f es x) (hf es x h)
theorem foldl_lenE {α : Type} (f : List GEst → α → List GEst) (hf : ∀ es x, (f es x).length = es.length) : ∀ (l : List α) (es : List GEst), (l.foldl f es).length = es.length
 | [], _ => rfl
 | x :: l, es => (foldl_lenE f hf l (f es x)).trans (hf es x)
theorem grpE_okQ (n : Nat) (cash : List Nat) (list : List N4) (pools : List N3) : ∀ e ∈ grpE n cash list pools, okQ e :=
 foldl_ok _ (addAg_okQ _) _ _ (foldl_ok _ (addClaim_okQ _) _ _ fun e he => by
  obtain ⟨i, _, rfl⟩ := List.mem_map.1 he
  exact mkEst_okQ cash i)
theorem grpE_okB (n : Nat) (cash : List Nat) (list : List N4) (pools : List N3) : ∀ e ∈ grpE n cash list pools, okB e :=
 foldl_ok _ (addAg_ok _) _ _ fun e he => by
  have h := foldl_ok (Pr := okC) (addClaim (1 + n % 4)) (addClaim_ok _) list _ (fun e he => by
   obtain ⟨i, _, rfl⟩ := List.mem_map.1 he
   exact ⟨by simp [mkEst], rfl⟩) e he
  exact ⟨h.1, by rw [h.2]; simp, by rw [h.2]; simp⟩
theorem grpE_len (n : Nat) (cash : List Nat) (list : List N4) (pools : List N3) : (grpE n cash list pools).length = 1 + n % 4 := by
 unfold grpE
 rw [foldl_lenE _ (addAg_length _), foldl_lenE _ (addClaim_length _)]; simp
theorem okB_est2 {e : GEst} (h : okB e) (q : okQ e) : estOK2 e := by
 refine ⟨⟨q.1, q.2.1, by have := h.1; omega, fun a ha => ⟨fun t ht => by have := (h.2.2 a ha).2 t ht; omega, fun p hp => ?_⟩⟩, fun a ha => by have := (h.2.2 a ha).1; omega⟩
 obtain ⟨t, ht, hp⟩ := List.mem_flatten.1 hp
 exact q.2.2 a ha t ht p hp
theorem debts_ok (es : List GEst) : ∀ (l : List N3) (ds : List GDebt), (∀ d ∈ ds, ratOK d.whole ∧ d.legs.length ≤ 4) ∧ ds.length ≤ 3 → (∀ d ∈ l.foldl (addDb es) ds, ratOK d.whole ∧ d.legs.length ≤ 4) ∧ (l.foldl (addDb es) ds).length ≤ 3
 | [], _, h => h
 | x :: l, ds, h => by
  refine debts_ok es l (addDb es ds x) ?_
  unfold addDb
  split
  ·refine ⟨fun d hd => ?_, by simp only [List.length_append, List.length_cons, List.length_nil]; omega⟩
   rcases List.mem_append.1 hd with h1 | h1
   ·exact h.1 d h1
   obtain rfl : d = owN ⟨es, ds⟩ x := by simpa using h1
   exact ⟨ratOK_enc (amt_qB _), owN_len _ _⟩
  exact h
theorem grpN_ok (n : Nat) (cash : List Nat) (list : List N4) (pools debts : List N3) : grpOK2 (grpN n cash list pools debts) ∧ (grpN n cash list pools debts).debts.length ≤ 3 ∧ ∀ d ∈ (grpN n cash list pools debts).debts, d.legs.length ≤ 4 := by
 have h := debts_ok (grpE n cash list pools) debts [] ⟨by simp, by simp⟩
 exact ⟨⟨fun e he => okB_est2 (grpE_okB n cash list pools e he) (grpE_okQ n cash list pools e he), fun d hd => (h.1 d hd).1, fun d hd => by have := (h.1 d hd).2; omega⟩, h.2, fun d hd => (h.1 d hd).2⟩
end Go.Proofs.YtokmkopihhnggaaGreatDoor
namespace Go.Proofs.YtokmkopihhnggaaGreatDoor
open Go Go.RowKit Go.ChangeShapes Go.WideShapes Go.ChangeAt
theorem opensC_u8 : Opens Tryz.prog 5 (rC (fun n : Nat => [.lit (.int .u8 n)]) (· < 256)) := by
 intro H enc W fuel cs x h
 obtain ⟨n, rfl, hn⟩ := opens_u8 Tryz.underlying5 H enc W fuel cs x h
 exact ⟨n, ⟨⟨rfl, rfl⟩, trivial⟩, hn⟩
theorem opensC_u16 : Opens Tryz.prog 57 (rC cU16 (· < 65536)) := by
 intro H enc W fuel cs x h
 obtain ⟨n, rfl, hn⟩ := opens_u16 Tryz.underlying57 H enc W fuel cs x h
 exact ⟨n, ⟨⟨rfl, rfl⟩, trivial⟩, hn⟩
theorem Tryz.cellsU16 : Tryz.prog.cellsOf 57 = 1 := by kernel_rfl
theorem Tryz.cellsN4 : Tryz.prog.cellsOf 97 = 4 := by kernel_rfl
theorem Tryz.cellsN3 : Tryz.prog.cellsOf 98 = 3 := by kernel_rfl
theorem opensC_u16s : Opens Tryz.prog 56 (rC (cSl 1 cU16) (okSl (· < 65536))) := opens_sl Tryz.underlying56 Tryz.cellsU16 (by decide) cU16_len opensC_u16
def okN4 (x : N4) : Prop := x.a < 65536 ∧ x.b < 65536 ∧ x.c < 65536 ∧ x.d < 65536
def okN3 (x : N3) : Prop := x.a < 65536 ∧ x.b < 65536 ∧ x.c < 65536
theorem opensC_N4 : Opens Tryz.prog 97 (rC cN4 okN4) := by
 intro H enc W fuel cs x h
 obtain ⟨xs, m, _, _, hl, hxs, hf⟩ := DataW.trod_array Tryz.underlying97 h
 rw [Tryz.cellsN4] at hl
 simp only [Tryz.cellsU16] at hf
 match cs, hl with
 | [c0, c1, c2, c3], _ =>
  have h0 := hf 0 (by decide); rw [List.getElem?_eq_getElem (by omega)] at h0
  have h1 := hf 1 (by decide); rw [List.getElem?_eq_getElem (by omega)] at h1
  have h2 := hf 2 (by decide); rw [List.getElem?_eq_getElem (by omega)] at h2
  have h3 := hf 3 (by decide); rw [List.getElem?_eq_getElem (by omega)] at h3
  obtain ⟨a0, k0, o0⟩ := opensC_u16 H enc W _ _ _ h0
  obtain ⟨a1, k1, o1⟩ := opensC_u16 H enc W _ _ _ h1
  obtain ⟨a2, k2, o2⟩ := opensC_u16 H enc W _ _ _ h2
  obtain ⟨a3, k3, o3⟩ := opensC_u16 H enc W _ _ _ h3
  replace k0 : denVs (kAll W) [c0] _ := k0
  replace k1 : denVs (kAll W) [c1] _ := k1
  replace k2 : denVs (kAll W) [c2] _ := k2
  replace k3 : denVs (kAll W) [c3] _ := k3
  exact ⟨⟨a0, a1, a2, a3⟩, denVs.append k0 (denVs.append k1 (denVs.append k2 k3)), o0, o1, o2, o3⟩
theorem opensC_N4s : Opens Tryz.prog 22 (rC (cSl 4 cN4) (okSl okN4)) := opens_sl Tryz.underlying22 Tryz.cellsN4 (by decide) cN4_len opensC_N4
theorem opensC_N3 : Opens Tryz.prog 98 (rC cN3 okN3) := by
 intro H enc W fuel cs x h
 obtain ⟨xs, m, _, _, hl, hxs, hf⟩ := DataW.trod_array Tryz.underlying98 h
 rw [Tryz.cellsN3] at hl
 simp only [Tryz.cellsU16] at hf
 match cs, hl with
 | [c0, c1, c2], _ =>
  have h0 := hf 0 (by decide); rw [List.getElem?_eq_getElem (by omega)] at h0
  have h1 := hf 1 (by decide); rw [List.getElem?_eq_getElem (by omega)] at h1
  have h2 := hf 2 (by decide); rw [List.getElem?_eq_getElem (by omega)] at h2
  obtain ⟨a0, k0, o0⟩ := opensC_u16 H enc W _ _ _ h0
  obtain ⟨a1, k1, o1⟩ := opensC_u16 H enc W _ _ _ h1
  obtain ⟨a2, k2, o2⟩ := opensC_u16 H enc W _ _ _ h2
  replace k0 : denVs (kAll W) [c0] _ := k0
  replace k1 : denVs (kAll W) [c1] _ := k1
  replace k2 : denVs (kAll W) [c2] _ := k2
  exact ⟨⟨a0, a1, a2⟩, denVs.append k0 (denVs.append k1 k2), o0, o1, o2⟩
theorem opensC_N3s : Opens Tryz.prog 23 (rC (cSl 3 cN3) (okSl okN3)) := opens_sl Tryz.underlying23 Tryz.cellsN3 (by decide) cN3_len opensC_N3
end Go.Proofs.YtokmkopihhnggaaGreatDoor
