/- Amounts: walked; rows of rationals of the call's own. -/
import Derived.Test.YtokmkopihhnggaaAr1M
import Derived.Test.YtokmkopihhnggaaNumM
import Derived.Deep.DeepCutAuto
import Derived.Deep.RegionHeld3
import Derived.Test.YtokmkopihhnggaaPl2M
import Derived.Test.YtokmkopihhnggaaLawM
import Derived.Test.YtokmkopihhnggaaBl6M
import Derived.Test.YtokmkopihhnggaaOw4M
import Derived.Test.YtokmkopihhnggaaDi1M
import Derived.Test.YtokmkopihhnggaaAbYM
set_option linter.unusedVariables false
set_option linter.unusedSimpArgs false
set_option linter.defProp false
set_option linter.unnecessarySimpa false
set_option linter.unusedSectionVars false
section
/- Amounts: walked; rows of rationals of the call's own. -/
namespace Go.Proofs.Ytokmkopihhnggaa
open Go.RowKit
theorem rRat_new (w : World) (S : Nat → Prop) (r : GRat) (h : sB maxLen r) : rRat w S [.bool r.neg, .string r.num, .string r.den] r := ⟨rfl, h.1, h.2⟩
def cellF (rs : List GRat) (j : Nat) : Value := if j % 3 = 0 then .bool (rs.getD (j / 3) gZ).neg else if j % 3 = 1 then .string (rs.getD (j / 3) gZ).num else .string (rs.getD (j / 3) gZ).den
def OwnR (w : World) (g n : Nat) (rs : List GRat) : Prop := rs.length = n ∧ Own w g 45 (n * 3) (cellF rs)
theorem cellF0 (rs : List GRat) (k : Nat) : cellF rs (k * 3) = .bool (rs.getD k gZ).neg := by
  unfold cellF; rw [if_pos (by omega), show k * 3 / 3 = k by omega]
theorem cellF1 (rs : List GRat) (k : Nat) : cellF rs (k * 3 + 1) = .string (rs.getD k gZ).num := by
  unfold cellF; rw [if_neg (by omega), if_pos (by omega), show (k * 3 + 1) / 3 = k by omega]
theorem cellF2 (rs : List GRat) (k : Nat) : cellF rs (k * 3 + 2) = .string (rs.getD k gZ).den := by
  unfold cellF; rw [if_neg (by omega), if_neg (by omega), show (k * 3 + 2) / 3 = k by omega]
theorem OwnR.facts {w : World} {g n : Nat} {rs : List GRat} (h : OwnR w g n rs) {k : Nat} (hk : k < n) :
    w.cell? ⟨g, k * 3, none⟩ = some (.bool (rs.getD k gZ).neg) ∧ w.cell? ⟨g, k * 3 + 1, none⟩ = some (.string (rs.getD k gZ).num) ∧ w.cell? ⟨g, k * 3 + 2, none⟩ = some (.string (rs.getD k gZ).den) ∧ (∀ j, w.frozen? ⟨g, j, none⟩ = false) ∧ g < w.heap.size := by
  have h1 := h.2.cell (j := k * 3) (by omega)
  have h2 := h.2.cell (j := k * 3 + 1) (by omega)
  have h3 := h.2.cell (j := k * 3 + 2) (by omega)
  rw [cellF0] at h1
  rw [cellF1] at h2
  rw [cellF2] at h3
  exact ⟨h1, h2, h3, fun j => h.2.frozen j, h.2.lt⟩
theorem OwnR.put {w : World} {g n : Nat} {rs : List GRat} (h : OwnR w g n rs) {k : Nat} (hk : k < n) (r : GRat) :
    OwnR (((w.setCell ⟨g, k * 3, none⟩ (.bool r.neg)).setCell ⟨g, k * 3 + 1, none⟩ (.string r.num)).setCell ⟨g, k * 3 + 2, none⟩ (.string r.den)) g n (rs.set k r) := by
  refine ⟨by rw [List.length_set]; exact h.1, (((h.2.set _ _).set _ _).set _ _).congr fun j hj => ?_⟩
  have hk' : k < rs.length := by rw [h.1]; exact hk
  unfold upd
  by_cases e2 : j = k * 3 + 2
  · rw [if_pos e2, e2, cellF2]; simp [List.getD, hk']
  rw [if_neg e2]
  by_cases e1 : j = k * 3 + 1
  · rw [if_pos e1, e1, cellF1]; simp [List.getD, hk']
  rw [if_neg e1]
  by_cases e0 : j = k * 3
  · rw [if_pos e0, e0, cellF0]; simp [List.getD, hk']
  rw [if_neg e0]
  have hne : ¬ k = j / 3 := by omega
  unfold cellF
  simp [List.getD, List.getElem?_set, hne]
theorem OwnR.below {w w' : World} {g n : Nat} {rs : List GRat} (h : OwnR w g n rs) (hb : Below w.heap.size w w') : OwnR w' g n rs := ⟨h.1, h.2.below hb h.2.lt⟩
theorem OwnR.alloc {w : World} {g n : Nat} {rs : List GRat} (h : OwnR w g n rs) (o : Obj) : OwnR (w.alloc o) g n rs := ⟨h.1, h.2.alloc o⟩
theorem OwnR.drew {w : World} {g n : Nat} {rs : List GRat} (h : OwnR w g n rs) : OwnR w.drew g n rs := h
theorem OwnR.other {w : World} {g g' n : Nat} {rs : List GRat} (h : OwnR w g n rs) (hne : g' ≠ g) (r : GRat) : OwnR (put3 w g' r) g n rs := ⟨h.1, ((h.2.other hne _ _).other hne _ _).other hne _ _⟩
theorem OwnR.new (w : World) (n : Nat) : OwnR (w.alloc (.cells (madeCells #[.bool false, .string { data := #[] }, .string { data := #[] }] (n * 3)) 45)) w.heap.size n (List.replicate n gZ) := by
  refine ⟨by simp, ?_⟩
  unfold Own
  rw [heap_alloc_new]
  congr 2
  apply Array.ext
  · simp [madeCells]
  intro i h1 h2
  have hi : i < n * 3 := by simpa using h2
  have e : (List.replicate n gZ).getD (i / 3) gZ = gZ := by simp [List.getD, List.getElem?_replicate]; split <;> rfl
  simp only [madeCells, Array.getElem_map, Array.getElem_range, cellF, e]
  have : i % 3 = 0 ∨ i % 3 = 1 ∨ i % 3 = 2 := by omega
  rcases this with h | h | h <;> simp [h] <;> rfl
theorem OwnR.reads {w : World} {g n : Nat} {rs : List GRat} (h : OwnR w g n rs) (hn : n ≤ maxLen) (hs : ∀ r ∈ rs, sB maxLen r) : RL w (.slice (some ⟨g, 0, none⟩) n n) rs := by
  refine ⟨some ⟨g, 0, none⟩, n, by rw [h.1], by rw [h.1]; exact Nat.le_refl _, hn, by simp, .inr ⟨g, 0, rfl, h.2.lt, fun j hj => ⟨[.bool rs[j].neg, .string rs[j].num, .string rs[j].den], rfl, ?_, rRat_new _ _ _ (hs _ (List.getElem_mem hj))⟩⟩⟩
  intro c hc
  obtain ⟨f0, f1, f2, _⟩ := h.facts (k := j) (by rw [← h.1]; exact hj)
  have e : rs.getD j gZ = rs[j] := by simp [List.getD, hj]
  rw [e] at f0 f1 f2
  have : c = 0 ∨ c = 1 ∨ c = 2 := by omega
  rcases this with rfl | rfl | rfl
  · simpa using f0
  · simpa using f1
  simpa using f2
end Go.Proofs.Ytokmkopihhnggaa
end
section
/- guarantee.Refunds: walked. -/
namespace Go.Proofs.Ytokmkopihhnggaa
open Go.RowKit
attribute [local go_sem ↓] Go.wp_at_zero Go.wp_at_succ
def RSt (w wr : World) (W : GRat) (n : Nat) (rs : List GRat) (s o : GRat) : Prop :=
  Bx wr w.heap.size W ∧ OwnR wr (w.heap.size + 1) n rs ∧ Bx wr (w.heap.size + 1 + 1) s ∧ Bx wr (w.heap.size + 1 + 1 + 1) o ∧ Below w.heap.size w wr
section
variable {w wr : World} {W : GRat} {n : Nat} {rs : List GRat} {s o : GRat}
theorem RSt.next {w' : World} (h : RSt w wr W n rs s o) (hb : Below wr.heap.size wr w') : RSt w w' W n rs s o := ⟨h.1.below hb, h.2.1.below hb, h.2.2.1.below hb, h.2.2.2.1.below hb, h.2.2.2.2.step hb⟩
theorem RSt.drew (h : RSt w wr W n rs s o) : RSt w wr.drew W n rs s o := ⟨h.1.drew, h.2.1.drew, h.2.2.1.drew, h.2.2.2.1.drew, Below.drew h.2.2.2.2⟩
theorem RSt.alloc (h : RSt w wr W n rs s o) (b : Obj) : RSt w (wr.alloc b) W n rs s o := h.next ((Below.refl _ _).alloc (Nat.le_refl _) _)
theorem RSt.putO (h : RSt w wr W n rs s o) (a : GRat) : RSt w (put3 wr (w.heap.size + 1 + 1 + 1) a) W n rs s a :=
  ⟨h.1.other (by omega) a, h.2.1.other (by omega) a, h.2.2.1.other (by omega) a, h.2.2.2.1.put a, below_put h.2.2.2.2 (by omega) a⟩
theorem RSt.lt (h : RSt w wr W n rs s o) : w.heap.size + 1 + 1 + 1 < wr.heap.size := Blk3.lt h.2.2.2.1
end
end Go.Proofs.Ytokmkopihhnggaa
end
section
/- insolvencylaw18.awake: walked. -/
namespace Go.Proofs.Ytokmkopihhnggaa
open Go.RowKit
attribute [local go_sem ↓] Go.wp_at_zero Go.wp_at_succ
theorem RL.get {w : World} {v : Value} {l : List GRat} (h : RL w v l) {k : Nat} (hk : k < l.length) :
    ∃ b off cap, v = .slice (some ⟨b, off, none⟩) l.length cap ∧ b < w.heap.size ∧ l.length ≤ 9223372036854775807 ∧ ∀ j (h : j < l.length), w.cell? ⟨b, off + j * 3, none⟩ = some (.bool l[j].neg) ∧ w.cell? ⟨b, off + j * 3 + 1, none⟩ = some (.string l[j].num) ∧ w.cell? ⟨b, off + j * 3 + 2, none⟩ = some (.string l[j].den) ∧ sB maxLen l[j] := by
  obtain ⟨a, cap, rfl, h1, h2⟩ := h.open
  rcases h2 with h2 | ⟨b, off, rfl, hb, h3⟩
  · rw [h2] at hk; simp at hk
  exact ⟨b, off, cap, rfl, hb, h1, h3⟩
def AwS (w5 : World) (b off : Nat) (q0 q20 : GRat) (w' : World) : Prop := Below w5.heap.size w5 w' ∧ w'.cell? ⟨b, off, none⟩ = some (.bool q0.neg) ∧ w'.cell? ⟨b, off + 1, none⟩ = some (.string q0.num) ∧ w'.cell? ⟨b, off + 2, none⟩ = some (.string q0.den) ∧ w'.cell? ⟨b, off + 3, none⟩ = some (.bool q20.neg) ∧ w'.cell? ⟨b, off + 3 + 1, none⟩ = some (.string q20.num) ∧ w'.cell? ⟨b, off + 3 + 2, none⟩ = some (.string q20.den) ∧ w'.cell? ⟨b, off + 6, none⟩ = some (.bool q20.neg) ∧ w'.cell? ⟨b, off + 6 + 1, none⟩ = some (.string q20.num) ∧ w'.cell? ⟨b, off + 6 + 2, none⟩ = some (.string q20.den)
theorem AwS.drew {w5 W : World} {b off : Nat} {q0 q20 : GRat} (h : AwS w5 b off q0 q20 W) : AwS w5 b off q0 q20 W.drew := ⟨Below.drew h.1, h.2⟩
theorem AwS.next {w5 W V : World} {b off : Nat} {q0 q20 : GRat} (h : AwS w5 b off q0 q20 W) (hb : b < w5.heap.size) (hV : Below W.heap.size W V) : AwS w5 b off q0 q20 V := by
  have hc : ∀ o, V.cell? ⟨b, o, none⟩ = W.cell? ⟨b, o, none⟩ := fun o => hV.cell (p := ⟨b, o, none⟩) (Nat.lt_of_lt_of_le hb h.1.size)
  obtain ⟨h0, h⟩ := h
  refine ⟨h0.step hV, ?_⟩
  simp only [hc]
  exact h
end Go.Proofs.Ytokmkopihhnggaa
end
section
/- GuaranteeCheck: the law's own function; walked by the abstract machine. -/
namespace Go.Proofs.Ytokmkopihhnggaa
open Go Go.RowKit
theorem acall_law {P : Program} {f : FuncId} {args : List A1} {vs : List Value} {w : World} (h : ACall P f args (one (.bool true))) (hd : den1s (kAll w) vs args) :
    Calls P f vs.toArray w fun e w' => e = .returned (.bool true) ∧ Below w.heap.size w w' :=
  (h.2 w (LT w.heap.size) vs (fun _ h => h) hd).mono fun e w' ⟨v, he, hb, hv⟩ => by
    have : v = .bool true := hv.1
    subst this
    exact ⟨he, hb⟩
theorem den_oneC {α : Type} {enc : α → List C} {ok : α → Prop} {W : World} {v : Value} {a : α} {c : C} (o : rC enc ok W (LT W.heap.size) [v] a) (he : enc a = [c]) : den1 (kAll W) v (.one c) ∧ ok a := by
  obtain ⟨h, k⟩ := o
  rw [he] at h
  exact ⟨h.1, k⟩
end Go.Proofs.Ytokmkopihhnggaa
end
section
/- Classes as arguments of a law, opened; ClassSum's own function. -/
namespace Go.Proofs.Ytokmkopihhnggaa
open Go Go.RowKit Go.ChangeShapes Go.WideShapes Go.ChangeAt
end Go.Proofs.Ytokmkopihhnggaa
end
section
/- A box that is read from here on; contracts at arguments that say less; groups whose ranks were changed. -/
namespace Go.Proofs.Ytokmkopihhnggaa
open Go Go.RowKit
section
variable {P : Program} {e : En} {k0 : Kx} {N : Nat} {st : St} {a : Act} {w : World} {Q : Exit → St → Prop} {c : Code}
end
end Go.Proofs.Ytokmkopihhnggaa
end
section
/- The builder of disputes: the list a row of the caller's own, and the options of one chosen dispute too; walked by the abstract machine. -/
namespace Go.Proofs.Ytokmkopihhnggaa
open Go Go.RowKit
def okD (d : GDisp) : Prop := 1 ≤ d.opts.length ∧ d.opts.length ≤ 3 ∧ ∀ y ∈ d.opts, opG y
theorem spE_len : ∀ (l : List GEst) (i : Nat) (out : List Leg), (∀ e ∈ l, e.claims.length ≤ 1000000) → (spE l i out).length ≤ out.length + 1000000 * l.length
  | [], _, _, _ => by simp [spE]
  | e :: l, i, out, h => by
    have h1 := spE_len l (i + 1) (spC i out e.claims.length) fun x hx => h x (List.mem_cons_of_mem _ hx)
    have h2 := h e (by simp)
    rw [spC_len] at h1
    simp only [spE, List.length_cons]
    omega
end Go.Proofs.Ytokmkopihhnggaa
end
section
/- Plain law of the outcomes' numbers: digits in a mixed radix. No walk. -/
namespace Go.Proofs.Ytokmkopihhnggaa
open Go Go.RowKit
def okCh : List GDisp → List Nat → Prop
  | [], [] => True
  | d :: l, c :: cs => c < d.opts.length ∧ okCh l cs
  | _, _ => False
def dgt : List GDisp → Nat → List Nat
  | [], _ => []
  | d :: l, k => k % d.opts.length :: dgt l (k / d.opts.length)
def ixD : List GDisp → List Nat → Nat
  | d :: l, c :: cs => ixD l cs * d.opts.length + c
  | _, _ => 0
def prD : List GDisp → Nat
  | [] => 1
  | d :: l => d.opts.length * prD l
theorem okCh_len : ∀ {l : List GDisp} {c : List Nat}, okCh l c → c.length = l.length
  | [], [], _ => rfl
  | d :: l, c :: cs, h => by simp [okCh_len h.2]
  | [], _ :: _, h => h.elim
  | _ :: _, [], h => h.elim
theorem okCh_at : ∀ {l : List GDisp} {c : List Nat}, okCh l c → ∀ i (h : i < l.length) (h' : i < c.length), c[i] < l[i].opts.length
  | d :: l, c :: cs, h, 0, _, _ => h.1
  | d :: l, c :: cs, h, i + 1, h1, h2 => okCh_at h.2 i (by simpa using h1) (by simpa using h2)
  | [], _, _, _, h, _ => absurd h (by simp)
  | _ :: _, [], h, _, _, _ => h.elim
theorem okCh_drop : ∀ {l : List GDisp} {c : List Nat}, okCh l c → ∀ i, okCh (l.drop i) (c.drop i)
  | _, _, h, 0 => h
  | [], [], _, i + 1 => by simp [okCh]
  | d :: l, c :: cs, h, i + 1 => okCh_drop h.2 i
  | [], _ :: _, h, _ + 1 => h.elim
  | _ :: _, [], h, _ + 1 => h.elim
theorem ixD_lt : ∀ {l : List GDisp} {c : List Nat}, okCh l c → ixD l c < prD l
  | [], [], _ => by decide
  | d :: l, c :: cs, h => by
    have h1 := ixD_lt h.2
    have h2 := h.1
    have h3 : (ixD l cs + 1) * d.opts.length ≤ prD l * d.opts.length := Nat.mul_le_mul_right _ h1
    rw [Nat.add_mul, Nat.one_mul] at h3
    show ixD l cs * d.opts.length + c < d.opts.length * prD l
    rw [Nat.mul_comm d.opts.length]
    omega
  | [], _ :: _, h => h.elim
  | _ :: _, [], h => h.elim
theorem dgt_ix : ∀ {l : List GDisp} {c : List Nat}, okCh l c → dgt l (ixD l c) = c
  | [], [], _ => rfl
  | d :: l, c :: cs, h => by
    have h1 := dgt_ix h.2
    have h2 := h.1
    have e1 : (ixD l cs * d.opts.length + c) % d.opts.length = c := by rw [Nat.add_comm, Nat.add_mul_mod_self_right, Nat.mod_eq_of_lt h2]
    have e2 : (ixD l cs * d.opts.length + c) / d.opts.length = ixD l cs := by rw [Nat.add_comm, Nat.add_mul_div_right _ _ (by omega), Nat.div_eq_of_lt h2, Nat.zero_add]
    simp only [dgt, ixD, e1, e2, h1]
  | [], _ :: _, h => h.elim
  | _ :: _, [], h => h.elim
theorem ix_dgt : ∀ (l : List GDisp) (k : Nat), k < prD l → ixD l (dgt l k) = k
  | [], k, h => by
    have : k < 1 := h
    simp [dgt, ixD]; omega
  | d :: l, k, h => by
    have h1 := ix_dgt l (k / d.opts.length) (Nat.div_lt_of_lt_mul h)
    simp only [dgt, ixD, h1]
    exact Nat.div_add_mod' k _
theorem dgt_ok : ∀ (l : List GDisp) (k : Nat), (∀ d ∈ l, 1 ≤ d.opts.length) → okCh l (dgt l k)
  | [], _, _ => trivial
  | d :: l, k, h => ⟨Nat.mod_lt _ (h d (by simp)), dgt_ok l _ fun x hx => h x (List.mem_cons_of_mem _ hx)⟩
theorem dgt_len : ∀ (l : List GDisp) (k : Nat), (dgt l k).length = l.length
  | [], _ => rfl
  | _ :: l, k => by simp [dgt, dgt_len l]
theorem prD_le : ∀ (l : List GDisp), (∀ d ∈ l, d.opts.length ≤ 3) → prD l ≤ 3 ^ l.length
  | [], _ => by decide
  | d :: l, h => by
    have h1 := prD_le l fun x hx => h x (List.mem_cons_of_mem _ hx)
    have h2 := h d (by simp)
    show d.opts.length * prD l ≤ 3 ^ (l.length + 1)
    rw [Nat.pow_succ, Nat.mul_comm]
    exact Nat.mul_le_mul h1 h2
theorem prD_pos : ∀ (l : List GDisp), (∀ d ∈ l, 1 ≤ d.opts.length) → 1 ≤ prD l
  | [], _ => by decide
  | d :: l, h => Nat.mul_pos (h d (by simp)) (prD_pos l fun x hx => h x (List.mem_cons_of_mem _ hx))
theorem cnL_prD : ∀ (l : List GDisp) (n : Nat), n * 3 ^ l.length ≤ 4096 → (∀ d ∈ l, d.opts.length ≤ 3) → cnL l (n : Int) = ((n * prD l : Nat) : Int)
  | [], n, _, _ => by simp [cnL, prD]
  | d :: l, n, h, hd => by
    have h2 := hd d (by simp)
    have h3 : n * d.opts.length * 3 ^ l.length ≤ 4096 := by
      refine Nat.le_trans ?_ h
      rw [List.length_cons, Nat.pow_succ, Nat.mul_comm (3 ^ l.length), ← Nat.mul_assoc]
      exact Nat.mul_le_mul_right _ (Nat.mul_le_mul_left _ h2)
    have h4 : n * d.opts.length ≤ 4096 := Nat.le_trans (Nat.le_mul_of_pos_right _ (Nat.pow_pos (by decide))) h3
    have h5 := cnL_prD l (n * d.opts.length) h3 fun x hx => hd x (List.mem_cons_of_mem _ hx)
    have e : min ((n : Int) * min (d.opts.length : Int) 4097) 4097 = ((n * d.opts.length : Nat) : Int) := by
      have e1 : min (d.opts.length : Int) 4097 = (d.opts.length : Int) := by omega
      have e2 : (n : Int) * (d.opts.length : Int) = ((n * d.opts.length : Nat) : Int) := by norm_cast
      rw [e1, e2]; omega
    show cnL l _ = _
    rw [e, h5]
    congr 1
    rw [Nat.mul_assoc]; rfl
theorem fewD_cn {l : List GDisp} (h : l.length ≤ 6 ∧ ∀ d ∈ l, 1 ≤ d.opts.length ∧ d.opts.length ≤ 3) : cnL l 1 = (prD l : Int) ∧ prD l ≤ 729 ∧ 1 ≤ prD l := by
  have h1 := prD_le l fun d hd => (h.2 d hd).2
  have h2 : 3 ^ l.length ≤ 3 ^ 6 := Nat.pow_le_pow_right (by decide) h.1
  have h3 := cnL_prD l 1 (by omega) fun d hd => (h.2 d hd).2
  exact ⟨by simpa using h3, by omega, prD_pos l fun d hd => (h.2 d hd).1⟩
end Go.Proofs.Ytokmkopihhnggaa
end
