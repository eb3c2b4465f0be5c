/- The groups that are built: short numbers, few elements. No program in sight. -/
import Derived.Test.YtokmkopihhnggaaBl5M
import Derived.Test.YtokmkopihhnggaaPl2M
import Derived.Test.YtokmkopihhnggaaBl3M
import Derived.Test.YtokmkopihhnggaaLawM
set_option linter.unusedVariables false
set_option linter.unusedSimpArgs false
set_option linter.defProp false
set_option linter.unnecessarySimpa false
section
/- The groups that are built: short numbers, few elements. No program in sight. -/
namespace Go.Proofs.Ytokmkopihhnggaa
open Go Go.RowKit
theorem foldl_ok {α : Type} {Pr : GEst → Prop} (f : List GEst → α → List GEst) (hf : ∀ es x, (∀ e ∈ es, Pr e) → ∀ e ∈ f es x, Pr e) : ∀ (l : List α) (es : List GEst), (∀ e ∈ es, Pr e) → ∀ e ∈ l.foldl f es, Pr e
  | [], _, h => h
  | x :: l, es, h => foldl_ok f hf l (f es x) (hf es x h)
theorem foldl_lenE {α : Type} (f : List GEst → α → List GEst) (hf : ∀ es x, (f es x).length = es.length) : ∀ (l : List α) (es : List GEst), (l.foldl f es).length = es.length
  | [], _ => rfl
  | x :: l, es => (foldl_lenE f hf l (f es x)).trans (hf es x)
theorem grpE_okB (n : Nat) (cash : List Nat) (list : List N4) (pools : List N3) : ∀ e ∈ grpE n cash list pools, okB e :=
  foldl_ok _ (addAg_ok _) _ _ fun e he => by
    have h := foldl_ok (Pr := okC) (addClaim (1 + n % 4)) (addClaim_ok _) list _ (fun e he => by
      obtain ⟨i, _, rfl⟩ := List.mem_map.1 he
      exact ⟨by simp [mkEst], rfl⟩) e he
    exact ⟨h.1, by rw [h.2]; simp, by rw [h.2]; simp⟩
theorem grpE_len (n : Nat) (cash : List Nat) (list : List N4) (pools : List N3) : (grpE n cash list pools).length = 1 + n % 4 := by
  unfold grpE
  rw [foldl_lenE _ (addAg_length _), foldl_lenE _ (addClaim_length _)]; simp
theorem acall_args {P : Program} {f : FuncId} {args args' : List A1} {res : AV} (h : ACall P f args res) (hd : ∀ κ vs, den1s κ vs args' → den1s κ vs args) : ACall P f args' res :=
  ⟨h.1, fun w T vs hT hv => h.2 w T vs hT (hd _ _ hv)⟩
theorem den1s_cons {κ : Kx} {vs : List Value} {a : A1} {l : List A1} (h : den1s κ vs (a :: l)) : ∃ v vs', vs = v :: vs' ∧ den1 κ v a ∧ den1s κ vs' l := by
  cases vs with
  | nil => exact h.elim
  | cons v vs => exact ⟨v, vs, rfl, h.1, h.2⟩
theorem group_nil (n : Nat) (cash : List Nat) (list : List N4) (hn : n < 256) (hcs : ∀ x ∈ cash, x < 65536) (hl : ∀ x ∈ list, x.a < 65536 ∧ x.b < 65536 ∧ x.c < 65536 ∧ x.d < 65536)
    (hc0 : cash.length ≤ 9223372036854775807) (hl0 : list.length ≤ 9223372036854775807) : ACall Try.prog 4 [.one (.lit (.int .u8 n)), .one (.sh 1 cash.length (flat cU16 cash)), .one (.sh 4 list.length (flat cN4 list)), .one (.lit (.slice none 0 0)), .one (.lit (.slice none 0 0))] (.val (.agg (cGrp (grpN n cash list [] [])))) := by
  refine acall_args (group_A n cash list [] [] hn hcs hl (by simp) (by simp) hc0 hl0 (by simp) (by simp)) fun κ vs h => ?_
  obtain ⟨v1, vs1, rfl, d1, h⟩ := den1s_cons h
  obtain ⟨v2, vs2, rfl, d2, h⟩ := den1s_cons h
  obtain ⟨v3, vs3, rfl, d3, h⟩ := den1s_cons h
  obtain ⟨v4, vs4, rfl, d4, h⟩ := den1s_cons h
  obtain ⟨v5, vs5, rfl, d5, h⟩ := den1s_cons h
  exact ⟨d1, d2, d3, den_nilsh 3 d4, den_nilsh 3 d5, h⟩
end Go.Proofs.Ytokmkopihhnggaa
end
section
/- Plain numbers, rows of numbers and rows of fixed rows of numbers, opened as cells. -/
namespace Go.Proofs.Ytokmkopihhnggaa
open Go Go.RowKit Go.ChangeShapes Go.WideShapes Go.ChangeAt
theorem opensC_u8 : Opens Try.prog 5 (rC (fun n : Nat => [.lit (.int .u8 n)]) (· < 256)) := by
  intro H enc W fuel cs x h
  obtain ⟨n, rfl, hn⟩ := opens_u8 Try.underlying5 H enc W fuel cs x h
  exact ⟨n, ⟨⟨rfl, rfl⟩, trivial⟩, hn⟩
theorem opensC_u16 : Opens Try.prog 24 (rC cU16 (· < 65536)) := by
  intro H enc W fuel cs x h
  obtain ⟨n, rfl, hn⟩ := opens_u16 Try.underlying24 H enc W fuel cs x h
  exact ⟨n, ⟨⟨rfl, rfl⟩, trivial⟩, hn⟩
theorem Try.cellsU16 : Try.prog.cellsOf 24 = 1 := by kernel_rfl
theorem Try.cellsN4 : Try.prog.cellsOf 51 = 4 := by kernel_rfl
theorem opensC_u16s : Opens Try.prog 22 (rC (cSl 1 cU16) (okSl (· < 65536))) := opens_sl Try.underlying22 Try.cellsU16 (by decide) cU16_len opensC_u16
def okN4 (x : N4) : Prop := x.a < 65536 ∧ x.b < 65536 ∧ x.c < 65536 ∧ x.d < 65536
theorem opensC_N4 : Opens Try.prog 51 (rC cN4 okN4) := by
  intro H enc W fuel cs x h
  obtain ⟨xs, m, _, _, hl, hxs, hf⟩ := DataW.trod_array Try.underlying51 h
  rw [Try.cellsN4] at hl
  simp only [Try.cellsU16] at hf
  match cs, hl with
  | [c0, c1, c2, c3], _ =>
    have h0 := hf 0 (by decide); rw [List.getElem?_eq_getElem (by omega)] at h0
    have h1 := hf 1 (by decide); rw [List.getElem?_eq_getElem (by omega)] at h1
    have h2 := hf 2 (by decide); rw [List.getElem?_eq_getElem (by omega)] at h2
    have h3 := hf 3 (by decide); rw [List.getElem?_eq_getElem (by omega)] at h3
    obtain ⟨a0, k0, o0⟩ := opensC_u16 H enc W _ _ _ h0
    obtain ⟨a1, k1, o1⟩ := opensC_u16 H enc W _ _ _ h1
    obtain ⟨a2, k2, o2⟩ := opensC_u16 H enc W _ _ _ h2
    obtain ⟨a3, k3, o3⟩ := opensC_u16 H enc W _ _ _ h3
    replace k0 : denVs (kAll W) [c0] _ := k0
    replace k1 : denVs (kAll W) [c1] _ := k1
    replace k2 : denVs (kAll W) [c2] _ := k2
    replace k3 : denVs (kAll W) [c3] _ := k3
    exact ⟨⟨a0, a1, a2, a3⟩, denVs.append k0 (denVs.append k1 (denVs.append k2 k3)), o0, o1, o2, o3⟩
theorem opensC_N4s : Opens Try.prog 23 (rC (cSl 4 cN4) (okSl okN4)) := opens_sl Try.underlying23 Try.cellsN4 (by decide) cN4_len opensC_N4
end Go.Proofs.Ytokmkopihhnggaa
end
