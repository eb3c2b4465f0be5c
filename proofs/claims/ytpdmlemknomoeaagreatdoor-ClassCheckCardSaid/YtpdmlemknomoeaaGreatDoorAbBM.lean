/- The abstract machine: a call that only reads what the caller owns; estates with agreements whose claims are rows of the call's own. No program in sight. -/
import Derived.Test.YtpdmlemknomoeaaGreatDoorBl3M
set_option linter.unusedVariables false
set_option linter.unusedSimpArgs false
set_option linter.defProp false
set_option linter.unnecessarySimpa false
set_option linter.unusedSectionVars false
/- The abstract machine: a call that only reads what the caller owns; estates with agreements whose claims are rows of the call's own. No program in sight. -/
namespace Go.Proofs.YtpdmlemknomoeaaGreatDoor
open Go Go.RowKit
section
variable {P : Program} {e : En} {H : Hp} {nx : Nat} {σ : Nat → Value} {w : World}
theorem acallI_borrow {f : FuncId} {args args' : List A1} {res : AV} {H : Hp} {nx : Nat} (h : ACall P f args res) (hf : allA flat1 res = true)
    (hs : ∀ (e : En) (σ : Nat → Value) (w : World) (vs : List Value), RW e H nx σ w → den1s (kx e H nx σ w) vs args' → den1s (kAll w) vs args) :
    ACallI P f args' H nx (fun r H' nx' => r = res ∧ H' = H ∧ nx' = nx) := by
  refine ⟨h.1, fun e σ w vs hW hv => ?_⟩
  refine (h.2 w (fun b => b < w.heap.size) vs (fun _ h => h) (hs e σ w vs hW hv)).mono fun ex w' ⟨v, he, hb, hd⟩ => ?_
  obtain ⟨q1, q2⟩ := hW.keep (grownBy_below hb)
  exact ⟨v, res, H, nx, σ, he, q1, q2, denA_flat hf hd, rfl, rfl, rfl⟩
theorem own_read (hW : RW e H nx σ w) {v : Value} {nm s n sz : Nat} {B : Blk} (hB : H nm = some B) (hsz : B.sz ≠ 0) (hs : B.st = s) (hd : den (kx e H nx σ w) v (.own nm s n sz)) {cs' : List C}
    (hc : ∀ xs, denVs (kx e H nx σ w) xs B.cs → denVs (kAll w) xs cs') : den (kAll w) v (.sh sz n cs') := by
  obtain ⟨h1, h2, xs, h3, h4⟩ := hW.rowOf hB (.inl hsz)
  have hc' := hc xs h4
  have hlen : cs'.length = B.n * B.sz := by rw [← hc'.length, h4.length]; exact h2
  simp only [den] at hd ⊢
  obtain ⟨e1, e2, e3⟩ := hd.2.2 B hB hs
  subst e2; subst e3
  have e1' : v = σ nm := e1
  rw [e1']
  rcases h3.2 with ⟨hn, h5⟩ | ⟨g, cap, cur, hn, hb, hg, hc, hm, hs, ht⟩
  · refine ⟨none, 0, ?_, by omega, by unfold maxLen; omega, fun _ => rfl, hlen, .inl h5⟩
    rw [h5]; exact hn
  refine ⟨some ⟨g, 0, none⟩, cap, hn, hc, hm, by simp, hlen, .inr ⟨g, 0, rfl, ?_, ?_⟩⟩
  · exact kAll_S (hW.lt hB (by rw [hn]; rfl)).2
  refine denM.of_vals hc' fun j u hu => ?_
  have hadd : (⟨g, 0, none⟩ : Addr).add j = ⟨g, 0 + j, none⟩ := by unfold Addr.add; split <;> simp_all
  have := h3.cells (g := g) (by rw [hn]; rfl) j u hu
  rw [hadd] at this
  exact this
end
section
variable {P : Program} {e : En} {k0 : Kx} {N : Nat} {tm : Nat → AV} {nb s : Nat} {Q : Exit → St → Prop} {c : Code}
end
end Go.Proofs.YtpdmlemknomoeaaGreatDoor
