/- The sanity check of layer 29; walked by the abstract machine. -/
import Derived.Test.YtmbahnmhicdjfaaGreatDoorOw4M
import Derived.Test.YtmbahnmhicdjfaaGreatDoorAbBM
import Derived.Test.YtmbahnmhicdjfaaGreatDoorBl4M
import Derived.Test.YtmbahnmhicdjfaaGreatDoorOpGM
import Derived.Test.YtmbahnmhicdjfaaGreatDoorGu1M
import Derived.Test.YtmbahnmhicdjfaaGreatDoorNumM
import Derived.Deep.DeepCutAuto
import Derived.Deep.RegionHeld3
import Derived.Test.YtmbahnmhicdjfaaGreatDoorFewM
import Derived.Test.YtmbahnmhicdjfaaGreatDoorWf6M
import Derived.Test.YtmbahnmhicdjfaaGreatDoorWp1M
import Derived.Test.YtmbahnmhicdjfaaGreatDoorAbZM
set_option linter.unusedVariables false
set_option linter.unusedSimpArgs false
set_option linter.defProp false
set_option linter.unnecessarySimpa false
set_option linter.unusedSectionVars false
section
/- The sanity check of layer 29; walked by the abstract machine. -/
namespace Go.Proofs.YtmbahnmhicdjfaaGreatDoor
open Go Go.RowKit
end Go.Proofs.YtmbahnmhicdjfaaGreatDoor
end
section
/- Plain numbers, rows of numbers and rows of fixed rows of numbers, opened as cells. -/
namespace Go.Proofs.YtmbahnmhicdjfaaGreatDoor
open Go Go.RowKit Go.ChangeShapes Go.WideShapes Go.ChangeAt
end Go.Proofs.YtmbahnmhicdjfaaGreatDoor
end
section
/- Lists of rationals; FewRats, SameRats: walked. -/
namespace Go.Proofs.YtmbahnmhicdjfaaGreatDoor
open Go.RowKit
def RL (w : World) (v : Value) (l : List GRat) : Prop := rSlice 3 rRat w (LT w.heap.size) [v] l
theorem RL.below {w w' : World} {v : Value} {l : List GRat} (h : RL w v l) (hb : Below w.heap.size w w') : RL w' v l := (stays_rSlice stays_rRat).below h hb hb.size
theorem RL.drew {w : World} {v : Value} {l : List GRat} (h : RL w v l) : RL w.drew v l := h
theorem RL.open {w : World} {v : Value} {l : List GRat} (h : RL w v l) :
    ∃ a cap, v = .slice a l.length cap ∧ l.length ≤ 9223372036854775807 ∧ (l = [] ∨ ∃ b off, a = some ⟨b, off, none⟩ ∧ b < w.heap.size ∧ ∀ j (h : j < l.length), w.cell? ⟨b, off + j * 3, none⟩ = some (.bool l[j].neg) ∧ w.cell? ⟨b, off + j * 3 + 1, none⟩ = some (.string l[j].num) ∧ w.cell? ⟨b, off + j * 3 + 2, none⟩ = some (.string l[j].den) ∧ sB maxLen l[j]) := by
  obtain ⟨a, cap, hv, h1, h2, h3, h4⟩ := h
  simp only [List.cons.injEq, and_true] at hv
  refine ⟨a, cap, hv, len_le h1 h2, ?_⟩
  rcases h4 with h4 | ⟨b, off, h5, h6, h7⟩
  · exact .inl h4
  refine .inr ⟨b, off, h5, h6, fun j hj => ?_⟩
  obtain ⟨cs, k1, k2, rfl, k3, k4⟩ := h7 j hj
  exact ⟨k2 0 (by decide), k2 1 (by decide), k2 2 (by decide), k3, k4⟩
end Go.Proofs.YtmbahnmhicdjfaaGreatDoor
end
section
/- Amounts: walked; rows of rationals of the call's own. -/
namespace Go.Proofs.YtmbahnmhicdjfaaGreatDoor
open Go.RowKit
theorem rRat_new (w : World) (S : Nat → Prop) (r : GRat) (h : sB maxLen r) : rRat w S [.bool r.neg, .string r.num, .string r.den] r := ⟨rfl, h.1, h.2⟩
def cellF (rs : List GRat) (j : Nat) : Value := if j % 3 = 0 then .bool (rs.getD (j / 3) gZ).neg else if j % 3 = 1 then .string (rs.getD (j / 3) gZ).num else .string (rs.getD (j / 3) gZ).den
def OwnR (w : World) (g n : Nat) (rs : List GRat) : Prop := rs.length = n ∧ Own w g 32 (n * 3) (cellF rs)
theorem cellF0 (rs : List GRat) (k : Nat) : cellF rs (k * 3) = .bool (rs.getD k gZ).neg := by
  unfold cellF; rw [if_pos (by omega), show k * 3 / 3 = k by omega]
theorem cellF1 (rs : List GRat) (k : Nat) : cellF rs (k * 3 + 1) = .string (rs.getD k gZ).num := by
  unfold cellF; rw [if_neg (by omega), if_pos (by omega), show (k * 3 + 1) / 3 = k by omega]
theorem cellF2 (rs : List GRat) (k : Nat) : cellF rs (k * 3 + 2) = .string (rs.getD k gZ).den := by
  unfold cellF; rw [if_neg (by omega), if_neg (by omega), show (k * 3 + 2) / 3 = k by omega]
theorem OwnR.facts {w : World} {g n : Nat} {rs : List GRat} (h : OwnR w g n rs) {k : Nat} (hk : k < n) :
    w.cell? ⟨g, k * 3, none⟩ = some (.bool (rs.getD k gZ).neg) ∧ w.cell? ⟨g, k * 3 + 1, none⟩ = some (.string (rs.getD k gZ).num) ∧ w.cell? ⟨g, k * 3 + 2, none⟩ = some (.string (rs.getD k gZ).den) ∧ (∀ j, w.frozen? ⟨g, j, none⟩ = false) ∧ g < w.heap.size := by
  have h1 := h.2.cell (j := k * 3) (by omega)
  have h2 := h.2.cell (j := k * 3 + 1) (by omega)
  have h3 := h.2.cell (j := k * 3 + 2) (by omega)
  rw [cellF0] at h1
  rw [cellF1] at h2
  rw [cellF2] at h3
  exact ⟨h1, h2, h3, fun j => h.2.frozen j, h.2.lt⟩
theorem OwnR.put {w : World} {g n : Nat} {rs : List GRat} (h : OwnR w g n rs) {k : Nat} (hk : k < n) (r : GRat) :
    OwnR (((w.setCell ⟨g, k * 3, none⟩ (.bool r.neg)).setCell ⟨g, k * 3 + 1, none⟩ (.string r.num)).setCell ⟨g, k * 3 + 2, none⟩ (.string r.den)) g n (rs.set k r) := by
  refine ⟨by rw [List.length_set]; exact h.1, (((h.2.set _ _).set _ _).set _ _).congr fun j hj => ?_⟩
  have hk' : k < rs.length := by rw [h.1]; exact hk
  unfold upd
  by_cases e2 : j = k * 3 + 2
  · rw [if_pos e2, e2, cellF2]; simp [List.getD, hk']
  rw [if_neg e2]
  by_cases e1 : j = k * 3 + 1
  · rw [if_pos e1, e1, cellF1]; simp [List.getD, hk']
  rw [if_neg e1]
  by_cases e0 : j = k * 3
  · rw [if_pos e0, e0, cellF0]; simp [List.getD, hk']
  rw [if_neg e0]
  have hne : ¬ k = j / 3 := by omega
  unfold cellF
  simp [List.getD, List.getElem?_set, hne]
theorem OwnR.below {w w' : World} {g n : Nat} {rs : List GRat} (h : OwnR w g n rs) (hb : Below w.heap.size w w') : OwnR w' g n rs := ⟨h.1, h.2.below hb h.2.lt⟩
theorem OwnR.alloc {w : World} {g n : Nat} {rs : List GRat} (h : OwnR w g n rs) (o : Obj) : OwnR (w.alloc o) g n rs := ⟨h.1, h.2.alloc o⟩
theorem OwnR.drew {w : World} {g n : Nat} {rs : List GRat} (h : OwnR w g n rs) : OwnR w.drew g n rs := h
theorem OwnR.other {w : World} {g g' n : Nat} {rs : List GRat} (h : OwnR w g n rs) (hne : g' ≠ g) (r : GRat) : OwnR (put3 w g' r) g n rs := ⟨h.1, ((h.2.other hne _ _).other hne _ _).other hne _ _⟩
theorem OwnR.new (w : World) (n : Nat) : OwnR (w.alloc (.cells (madeCells #[.bool false, .string { data := #[] }, .string { data := #[] }] (n * 3)) 32)) w.heap.size n (List.replicate n gZ) := by
  refine ⟨by simp, ?_⟩
  unfold Own
  rw [heap_alloc_new]
  congr 2
  apply Array.ext
  · simp [madeCells]
  intro i h1 h2
  have hi : i < n * 3 := by simpa using h2
  have e : (List.replicate n gZ).getD (i / 3) gZ = gZ := by simp [List.getD, List.getElem?_replicate]; split <;> rfl
  simp only [madeCells, Array.getElem_map, Array.getElem_range, cellF, e]
  have : i % 3 = 0 ∨ i % 3 = 1 ∨ i % 3 = 2 := by omega
  rcases this with h | h | h <;> simp [h] <;> rfl
theorem OwnR.reads {w : World} {g n : Nat} {rs : List GRat} (h : OwnR w g n rs) (hn : n ≤ maxLen) (hs : ∀ r ∈ rs, sB maxLen r) : RL w (.slice (some ⟨g, 0, none⟩) n n) rs := by
  refine ⟨some ⟨g, 0, none⟩, n, by rw [h.1], by rw [h.1]; exact Nat.le_refl _, hn, by simp, .inr ⟨g, 0, rfl, h.2.lt, fun j hj => ⟨[.bool rs[j].neg, .string rs[j].num, .string rs[j].den], rfl, ?_, rRat_new _ _ _ (hs _ (List.getElem_mem hj))⟩⟩⟩
  intro c hc
  obtain ⟨f0, f1, f2, _⟩ := h.facts (k := j) (by rw [← h.1]; exact hj)
  have e : rs.getD j gZ = rs[j] := by simp [List.getD, hj]
  rw [e] at f0 f1 f2
  have : c = 0 ∨ c = 1 ∨ c = 2 := by omega
  rcases this with rfl | rfl | rfl
  · simpa using f0
  · simpa using f1
  simpa using f2
end Go.Proofs.YtmbahnmhicdjfaaGreatDoor
end
section
/- guarantee.Refunds: walked. -/
namespace Go.Proofs.YtmbahnmhicdjfaaGreatDoor
open Go.RowKit
attribute [local go_sem ↓] Go.wp_at_zero Go.wp_at_succ
def RSt (w wr : World) (W : GRat) (n : Nat) (rs : List GRat) (s o : GRat) : Prop :=
  Bx wr w.heap.size W ∧ OwnR wr (w.heap.size + 1) n rs ∧ Bx wr (w.heap.size + 1 + 1) s ∧ Bx wr (w.heap.size + 1 + 1 + 1) o ∧ Below w.heap.size w wr
section
variable {w wr : World} {W : GRat} {n : Nat} {rs : List GRat} {s o : GRat}
theorem RSt.next {w' : World} (h : RSt w wr W n rs s o) (hb : Below wr.heap.size wr w') : RSt w w' W n rs s o := ⟨h.1.below hb, h.2.1.below hb, h.2.2.1.below hb, h.2.2.2.1.below hb, h.2.2.2.2.step hb⟩
theorem RSt.drew (h : RSt w wr W n rs s o) : RSt w wr.drew W n rs s o := ⟨h.1.drew, h.2.1.drew, h.2.2.1.drew, h.2.2.2.1.drew, Below.drew h.2.2.2.2⟩
theorem RSt.alloc (h : RSt w wr W n rs s o) (b : Obj) : RSt w (wr.alloc b) W n rs s o := h.next ((Below.refl _ _).alloc (Nat.le_refl _) _)
theorem RSt.putO (h : RSt w wr W n rs s o) (a : GRat) : RSt w (put3 wr (w.heap.size + 1 + 1 + 1) a) W n rs s a :=
  ⟨h.1.other (by omega) a, h.2.1.other (by omega) a, h.2.2.1.other (by omega) a, h.2.2.2.1.put a, below_put h.2.2.2.2 (by omega) a⟩
theorem RSt.lt (h : RSt w wr W n rs s o) : w.heap.size + 1 + 1 + 1 < wr.heap.size := Blk3.lt h.2.2.2.1
end
end Go.Proofs.YtmbahnmhicdjfaaGreatDoor
end
section
/- insolvencylaw18.awake: walked. -/
namespace Go.Proofs.YtmbahnmhicdjfaaGreatDoor
open Go.RowKit
attribute [local go_sem ↓] Go.wp_at_zero Go.wp_at_succ
theorem RL.get {w : World} {v : Value} {l : List GRat} (h : RL w v l) {k : Nat} (hk : k < l.length) :
    ∃ b off cap, v = .slice (some ⟨b, off, none⟩) l.length cap ∧ b < w.heap.size ∧ l.length ≤ 9223372036854775807 ∧ ∀ j (h : j < l.length), w.cell? ⟨b, off + j * 3, none⟩ = some (.bool l[j].neg) ∧ w.cell? ⟨b, off + j * 3 + 1, none⟩ = some (.string l[j].num) ∧ w.cell? ⟨b, off + j * 3 + 2, none⟩ = some (.string l[j].den) ∧ sB maxLen l[j] := by
  obtain ⟨a, cap, rfl, h1, h2⟩ := h.open
  rcases h2 with h2 | ⟨b, off, rfl, hb, h3⟩
  · rw [h2] at hk; simp at hk
  exact ⟨b, off, cap, rfl, hb, h1, h3⟩
def AwS (w5 : World) (b off : Nat) (q0 q20 : GRat) (w' : World) : Prop := Below w5.heap.size w5 w' ∧ w'.cell? ⟨b, off, none⟩ = some (.bool q0.neg) ∧ w'.cell? ⟨b, off + 1, none⟩ = some (.string q0.num) ∧ w'.cell? ⟨b, off + 2, none⟩ = some (.string q0.den) ∧ w'.cell? ⟨b, off + 3, none⟩ = some (.bool q20.neg) ∧ w'.cell? ⟨b, off + 3 + 1, none⟩ = some (.string q20.num) ∧ w'.cell? ⟨b, off + 3 + 2, none⟩ = some (.string q20.den) ∧ w'.cell? ⟨b, off + 6, none⟩ = some (.bool q20.neg) ∧ w'.cell? ⟨b, off + 6 + 1, none⟩ = some (.string q20.num) ∧ w'.cell? ⟨b, off + 6 + 2, none⟩ = some (.string q20.den)
theorem AwS.drew {w5 W : World} {b off : Nat} {q0 q20 : GRat} (h : AwS w5 b off q0 q20 W) : AwS w5 b off q0 q20 W.drew := ⟨Below.drew h.1, h.2⟩
theorem AwS.next {w5 W V : World} {b off : Nat} {q0 q20 : GRat} (h : AwS w5 b off q0 q20 W) (hb : b < w5.heap.size) (hV : Below W.heap.size W V) : AwS w5 b off q0 q20 V := by
  have hc : ∀ o, V.cell? ⟨b, o, none⟩ = W.cell? ⟨b, o, none⟩ := fun o => hV.cell (p := ⟨b, o, none⟩) (Nat.lt_of_lt_of_le hb h.1.size)
  obtain ⟨h0, h⟩ := h
  refine ⟨h0.step hV, ?_⟩
  simp only [hc]
  exact h
end Go.Proofs.YtmbahnmhicdjfaaGreatDoor
end
section
/- GuaranteeCheck: the law's own function; walked by the abstract machine. -/
namespace Go.Proofs.YtmbahnmhicdjfaaGreatDoor
open Go Go.RowKit
theorem acall_law {P : Program} {f : FuncId} {args : List A1} {vs : List Value} {w : World} (h : ACall P f args (one (.bool true))) (hd : den1s (kAll w) vs args) :
    Calls P f vs.toArray w fun e w' => e = .returned (.bool true) ∧ Below w.heap.size w w' :=
  (h.2 w (LT w.heap.size) vs (fun _ h => h) hd).mono fun e w' ⟨v, he, hb, hv⟩ => by
    have : v = .bool true := hv.1
    subst this
    exact ⟨he, hb⟩
theorem den_agg {α : Type} {enc : α → List C} {ok : α → Prop} {W : World} {v : Value} {a : α} (o : ∃ cs : Array Value, v = .agg cs ∧ rC enc ok W (LT W.heap.size) cs.toList a) : den1 (kAll W) v (.agg (enc a)) ∧ ok a := by
  obtain ⟨cs, rfl, h, k⟩ := o
  exact ⟨⟨cs.toList, by simp, h⟩, k⟩
end Go.Proofs.YtmbahnmhicdjfaaGreatDoor
end
section
/- Classes as arguments of a law, opened; ClassSum's own function. -/
namespace Go.Proofs.YtmbahnmhicdjfaaGreatDoor
open Go Go.RowKit Go.ChangeShapes Go.WideShapes Go.ChangeAt
end Go.Proofs.YtmbahnmhicdjfaaGreatDoor
end
section
/- A box that is read from here on; contracts at arguments that say less; groups whose ranks were changed. -/
namespace Go.Proofs.YtmbahnmhicdjfaaGreatDoor
open Go Go.RowKit
section
variable {P : Program} {e : En} {k0 : Kx} {N : Nat} {st : St} {a : Act} {w : World} {Q : Exit → St → Prop} {c : Code}
end
end Go.Proofs.YtmbahnmhicdjfaaGreatDoor
end
section
/- The waterfall's cells; numbers divided; a state taken for one that says less. No walk. -/
namespace Go.Proofs.YtmbahnmhicdjfaaGreatDoor
open Go Go.RowKit
section
variable {P : Program} {e : En} {k0 : Kx} {N : Nat} {st : St} {Q : Exit → St → Prop} {c : Code}
theorem awp_weak {H0 : Hp} (hH : ∀ y B, H0 y = some B → st.H y = some B) (h : Awp P e k0 N c Q ⟨st.tm, H0, st.nx, st.nb⟩) : Awp P e k0 N c Q st :=
  awp_wk (fun _ _ hr => rel_keep (k0 := k0) st.tm H0 (fun _ => .inl rfl) hH hr) h
end
noncomputable def cQ (q : Rat) : List C := cRat (enc q)
theorem cQ_len (q : Rat) : (cQ q).length = 3 := rfl
theorem cQ_pure (q : Rat) : pureCs (cQ q) = true := pure_cRat _
noncomputable def cWP (p : WP) : List C := .lit (.int .i64 p.1) :: cRat (enc p.2)
theorem cWP_len (p : WP) : (cWP p).length = 4 := rfl
theorem cWP_pure (p : WP) : pureCs (cWP p) = true := rfl
noncomputable def cWT (t : WT) : List C := .sh 4 t.length (flat cWP t) :: cRat (enc (wSum t))
theorem cWT_len (t : WT) : (cWT t).length = 4 := rfl
theorem cWT_pure (t : WT) : pureCs (cWT t) = true := by simp [cWT, cRat, pureCs, pureC, flat_pure cWP_pure]
noncomputable def cPool (p : WPool) : List C := [.sh 1 p.1.length (flat cI p.1), .sh 4 p.2.length (flat cWT p.2)]
theorem cPool_len (p : WPool) : (cPool p).length = 2 := rfl
theorem cPool_pure (p : WPool) : pureCs (cPool p) = true := by simp [cPool, pureCs, pureC, flat_pure cI_pure, flat_pure cWT_pure]
noncomputable def cLay (L : WL) : List C := .lit (.int .i64 (L.count : Int)) :: .sh 4 L.ranks.length (flat cWT L.ranks) :: .sh 2 L.pools.length (flat cPool L.pools) :: cRat (enc L.total)
def tcs (A B : List C) (x : C) (s : GRat) : List C := A ++ (x :: (cRat s ++ B))
section
variable (A B : List C) (x y : C) (s s' : GRat)
theorem tcs_len : (tcs A B x s).length = A.length + (4 + B.length) := by simp [tcs, cRat]; omega
theorem tcs_0 : (tcs A B x s).drop A.length = x :: (cRat s ++ B) := by simp [tcs]
theorem tcs_1 : (tcs A B x s).drop (A.length + 1) = cRat s ++ B := by rw [← List.drop_drop, tcs_0]; rfl
theorem tcs_get : (tcs A B x s)[A.length]? = some x := by simp [tcs]
theorem tcs_set0 : spl (tcs A B x s) A.length [y] = tcs A B y s := by
  unfold tcs
  exact spl_mid A [x] (cRat s ++ B) [y] rfl
theorem tcs_set1 : spl (tcs A B x s) (A.length + 1) (cRat s') = tcs A B x s' := by
  have h := spl_mid (A ++ [x]) (cRat s) B (cRat s') rfl
  simp only [List.append_assoc, List.length_append, List.length_cons, List.length_nil, List.cons_append, List.nil_append] at h
  exact h
end
theorem repl_cQ (n : Nat) : repl n [C.lit (.bool false), C.lit (.string bEmpty), C.lit (.string bEmpty)] = flat cQ (List.replicate n 0) := by
  induction n with
  | zero => rfl
  | succ n ih =>
    rw [List.replicate_succ, flat_cons, ← ih, repl_succ]
    unfold cQ
    rw [← gZ_enc]
    rfl
theorem enc0_cells : cRat (enc 0) = [.lit (.bool false), .lit (.string bEmpty), .lit (.string bEmpty)] := by rw [← gZ_enc]; rfl
end Go.Proofs.YtmbahnmhicdjfaaGreatDoor
end
