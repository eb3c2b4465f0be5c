/- GuaranteeCheck: the law's own function; walked by the abstract machine. -/
import Derived.Test.YtogeijhepjcbgaaGreatDoorFewM
import Derived.Test.YtogeijhepjcbgaaGreatDoorAw29M
import Derived.Test.YtogeijhepjcbgaaGreatDoorLawM
import Derived.Test.YtogeijhepjcbgaaGreatDoorCs3M
import Derived.Test.YtogeijhepjcbgaaGreatDoorOw4M
set_option linter.unusedVariables false
set_option linter.unusedSimpArgs false
set_option linter.defProp false
set_option linter.unnecessarySimpa false
set_option linter.unusedSectionVars false
section
/- GuaranteeCheck: the law's own function; walked by the abstract machine. -/
namespace Go.Proofs.YtogeijhepjcbgaaGreatDoor
open Go Go.RowKit
theorem acall_law {P : Program} {f : FuncId} {args : List A1} {vs : List Value} {w : World} (h : ACall P f args (one (.bool true))) (hd : den1s (kAll w) vs args) :
    Calls P f vs.toArray w fun e w' => e = .returned (.bool true) ∧ Below w.heap.size w w' :=
  (h.2 w (LT w.heap.size) vs (fun _ h => h) hd).mono fun e w' ⟨v, he, hb, hv⟩ => by
    have : v = .bool true := hv.1
    subst this
    exact ⟨he, hb⟩
theorem den_oneC {α : Type} {enc : α → List C} {ok : α → Prop} {W : World} {v : Value} {a : α} {c : C} (o : rC enc ok W (LT W.heap.size) [v] a) (he : enc a = [c]) : den1 (kAll W) v (.one c) ∧ ok a := by
  obtain ⟨h, k⟩ := o
  rw [he] at h
  exact ⟨h.1, k⟩
end Go.Proofs.YtogeijhepjcbgaaGreatDoor
end
section
/- Classes as arguments of a law, opened; ClassSum's own function. -/
namespace Go.Proofs.YtogeijhepjcbgaaGreatDoor
open Go Go.RowKit Go.ChangeShapes Go.WideShapes Go.ChangeAt
def okAm (e : GEst) : Prop := ∀ c ∈ e.claims, sB 1 c.amount
theorem grpE_am (n : Nat) (cash : List Nat) (list : List N4) (pools : List N3) : ∀ e ∈ grpE n cash list pools, okAm e := by
  have hz : okAm ztEst := by simp [okAm, ztEst]
  refine foldl_ok _ (fun es p h => ?_) _ _ (foldl_ok _ (fun es x h => ?_) _ _ fun e he => ?_)
  · unfold addAg
    split
    · exact set_ok h _ (getD_ok h hz (p.a % (1 + n % 4)))
    exact h
  · unfold addClaim
    split
    · exact h
    have h0 := getD_ok h hz (x.a % (1 + n % 4))
    generalize es.getD (x.a % (1 + n % 4)) ztEst = e at *
    refine set_ok h _ fun c hc => ?_
    rcases List.mem_append.1 hc with h1 | h1
    · exact h0 c h1
    obtain rfl : c = mkClaim (1 + n % 4) x := by simpa using h1
    exact sB_enc (amt_qB _)
  obtain ⟨i, _, rfl⟩ := List.mem_map.1 he
  simp [okAm, mkEst]
end Go.Proofs.YtogeijhepjcbgaaGreatDoor
end
section
/- A box that is read from here on; contracts at arguments that say less; groups whose ranks were changed. -/
namespace Go.Proofs.YtogeijhepjcbgaaGreatDoor
open Go Go.RowKit
section
variable {P : Program} {e : En} {k0 : Kx} {N : Nat} {st : St} {a : Act} {w : World} {Q : Exit → St → Prop} {c : Code}
end
theorem lateL_all (bits : Nat) : ∀ (l : List GClaim) (k : Nat), ∀ c ∈ lateL bits l k, ∃ d ∈ l, c.amount = d.amount ∧ c.holder = d.holder ∧ (c.rank = d.rank ∨ c.rank = 6 ∨ c.rank = 7)
  | [], _, c, h => by simp [lateL] at h
  | d :: l, k, c, h => by
    rcases List.mem_cons.1 h with rfl | h
    · refine ⟨d, by simp, rfl, rfl, ?_⟩
      unfold lateC
      dsimp only
      split
      · exact .inr (.inl rfl)
      split
      · exact .inr (.inr rfl)
      exact .inl rfl
    obtain ⟨x, h1, h2⟩ := lateL_all bits l (k + 1) c h
    exact ⟨x, List.mem_cons_of_mem _ h1, h2⟩
theorem lateE_all (bits : Nat) : ∀ (l : List GEst) (k : Nat), ∀ e ∈ lateE bits l k, ∃ d ∈ l, ∃ m, e = ⟨d.cash, lateL bits d.claims m, d.agrs⟩
  | [], _, c, h => by simp [lateE] at h
  | d :: l, k, c, h => by
    rcases List.mem_cons.1 h with rfl | h
    · exact ⟨d, by simp, k, rfl⟩
    obtain ⟨x, h1, h2⟩ := lateE_all bits l _ c h
    exact ⟨x, List.mem_cons_of_mem _ h1, h2⟩
theorem lateE_get (bits : Nat) : ∀ (l : List GEst) (k i : Nat) (h : i < (lateE bits l k).length), ∃ m, (lateE bits l k)[i] = ⟨(l[i]'(by rw [lateE_len] at h; exact h)).cash, lateL bits (l[i]'(by rw [lateE_len] at h; exact h)).claims m, (l[i]'(by rw [lateE_len] at h; exact h)).agrs⟩
  | [], _, i, h => by simp [lateE] at h
  | d :: l, k, 0, h => ⟨k, rfl⟩
  | d :: l, k, i + 1, h => by
    obtain ⟨m, hm⟩ := lateE_get bits l (k + d.claims.length) i (by simpa [lateE] using h)
    exact ⟨m, by simpa [lateE] using hm⟩
noncomputable def lateN (n : Nat) (cash : List Nat) (list : List N4) (pools debts : List N3) (bits : Nat) : GGrp := ⟨lateE bits (grpE n cash list pools) 0, (grpN n cash list pools debts).debts⟩
theorem lateN_ok (n : Nat) (cash : List Nat) (list : List N4) (pools debts : List N3) (bits : Nat) : grpOK2 (lateN n cash list pools debts bits) ∧ (lateN n cash list pools debts bits).ests.length = 1 + n % 4 ∧ ∀ e ∈ (lateN n cash list pools debts bits).ests, e.claims.length ≤ 6 ∧ ∀ c ∈ e.claims, sB 1 c.amount := by
  have hok := grpN_ok n cash list pools debts
  have hb := grpE_okB n cash list pools
  have ha := grpE_am n cash list pools
  refine ⟨⟨fun e he => ?_, hok.1.2⟩, by show (lateE bits _ 0).length = _; rw [lateE_len]; exact grpE_len n cash list pools, fun e he => ?_⟩
  · obtain ⟨d, hd, m, rfl⟩ := lateE_all bits _ 0 e he
    obtain ⟨⟨k1, k2, k3, k4⟩, k5⟩ := hok.1.1 d hd
    refine ⟨⟨k1, fun c hc => ?_, by show (lateL bits d.claims m).length ≤ _; rw [lateL_len]; exact k3, k4⟩, k5⟩
    obtain ⟨x, hx, h1, _⟩ := lateL_all bits _ _ c hc
    rw [h1]; exact k2 x hx
  obtain ⟨d, hd, m, rfl⟩ := lateE_all bits _ 0 e he
  refine ⟨by show (lateL bits d.claims m).length ≤ _; rw [lateL_len]; exact (hb d hd).1, fun c hc => ?_⟩
  obtain ⟨x, hx, h1, _⟩ := lateL_all bits _ _ c hc
  rw [h1]; exact ha d hd x hx
end Go.Proofs.YtogeijhepjcbgaaGreatDoor
end
