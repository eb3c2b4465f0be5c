/- The groups that are built: short numbers, few elements. No program in sight. -/
import Derived.Test.YtogeijhepjcbgaaGreatDoorBl5M
import Derived.Test.YtogeijhepjcbgaaGreatDoorFewM
import Derived.Test.YtogeijhepjcbgaaGreatDoorGu1M
import Derived.Test.YtogeijhepjcbgaaGreatDoorNumM
import Derived.Deep.DeepCutAuto
import Derived.Deep.RegionHeld3
import Derived.Test.YtogeijhepjcbgaaGreatDoorLawM
set_option linter.unusedVariables false
set_option linter.unusedSimpArgs false
set_option linter.defProp false
set_option linter.unnecessarySimpa false
set_option linter.unusedSectionVars false
section
/- The groups that are built: short numbers, few elements. No program in sight. -/
namespace Go.Proofs.YtogeijhepjcbgaaGreatDoor
open Go Go.RowKit
theorem ratOK_gZ : ratOK gZ := ⟨by decide, by decide⟩
theorem ratOK_enc {q : Rat} (h : qB 1 q) : ratOK (enc q) := by
  have := sB_enc h
  unfold ratOK sB at *
  omega
theorem qB_small (n : Nat) (h : n < 256) : qB 1 (((n : Nat) : Int) : Rat) := ⟨by simp; omega, by simp⟩
def okQ (e : GEst) : Prop := ratOK e.cash ∧ (∀ c ∈ e.claims, ratOK c.amount) ∧ ∀ a ∈ e.agrs, ∀ t ∈ a, ∀ p ∈ t, ratOK p.cap
theorem okQ_zt : okQ ztEst := ⟨ratOK_gZ, by simp [ztEst], by simp [ztEst]⟩
theorem mkEst_okQ (cash : List Nat) (i : Nat) : okQ (mkEst cash i) := by
  refine ⟨?_, by simp [mkEst], by simp [mkEst]⟩
  unfold mkEst
  dsimp only
  split
  · exact ratOK_enc (amt_qB _)
  · exact ratOK_gZ
theorem addClaim_okQ (size : Nat) (es : List GEst) (x : N4) (h : ∀ e ∈ es, okQ e) : ∀ e ∈ addClaim size es x, okQ e := by
  unfold addClaim
  split
  · exact h
  · have h0 := getD_ok h okQ_zt (x.a % size)
    generalize es.getD (x.a % size) ztEst = e at *
    refine set_ok h _ ⟨h0.1, fun c hc => ?_, h0.2.2⟩
    rcases List.mem_append.1 hc with h1 | h1
    · exact h0.2.1 c h1
    · obtain rfl : c = mkClaim size x := by simpa using h1
      exact ratOK_enc (amt_qB _)
def okT (T : T3) : Prop := (∀ p ∈ T.a, ratOK p.cap) ∧ (∀ p ∈ T.b, ratOK p.cap) ∧ ∀ p ∈ T.c, ratOK p.cap
theorem put_okT (T : T3) (x : Nat) (p : GPart) (h : okT T) (hp : ratOK p.cap) : okT (T.put x p) := by
  unfold T3.put
  have key : ∀ l : List GPart, (∀ q ∈ l, ratOK q.cap) → ∀ q ∈ l ++ [p], ratOK q.cap := fun l hl q hq => by
    rcases List.mem_append.1 hq with h1 | h1
    · exact hl q h1
    · obtain rfl : q = p := by simpa using h1
      exact hp
  split
  · exact ⟨key _ h.1, h.2.1, h.2.2⟩
  · split
    · exact ⟨h.1, key _ h.2.1, h.2.2⟩
    · exact ⟨h.1, h.2.1, key _ h.2.2⟩
theorem bgP_ok (p : N3) (i : Nat) : ratOK (bgP p i).cap := by
  unfold bgP
  split
  · exact ratOK_enc (qB_small _ (by omega))
  · exact ratOK_gZ
theorem bgL_okT (agrs : List GAgr) (p : N3) : ∀ (l : List GClaim) (i : Nat) (T : T3), okT T → okT (bgL agrs p l i T)
  | [], _, _, h => h
  | _ :: l, i, T, h => by
    refine bgL_okT agrs p l (i + 1) _ ?_
    unfold bgS
    split
    · exact h
    · split
      · exact put_okT _ _ _ h (bgP_ok p i)
      · exact h
theorem bgN_okQ (e : GEst) (p : N3) : ∀ t ∈ bgN e p, ∀ q ∈ t, ratOK q.cap := by
  have h1 : okT (bgT p (bgL e.agrs p e.claims 0 ⟨[], [], []⟩)) := by
    have h0 := bgL_okT e.agrs p e.claims 0 ⟨[], [], []⟩ ⟨by simp, by simp, by simp⟩
    unfold bgT
    split
    · exact put_okT _ _ _ h0 (ratOK_enc (qB_small _ (by omega)))
    · exact h0
  intro t ht q hq
  simp only [bgN, List.mem_cons, List.not_mem_nil, or_false] at ht
  rcases ht with rfl | rfl | rfl
  · exact h1.1 q hq
  · exact h1.2.1 q hq
  · exact h1.2.2 q hq
theorem addAg_okQ (size : Nat) (es : List GEst) (p : N3) (h : ∀ e ∈ es, okQ e) : ∀ e ∈ addAg size es p, okQ e := by
  unfold addAg
  split
  · have h0 := getD_ok h okQ_zt (p.a % size)
    generalize es.getD (p.a % size) ztEst = e at *
    refine set_ok h _ ⟨h0.1, h0.2.1, fun a ha t ht q hq => ?_⟩
    rcases List.mem_append.1 ha with h1 | h1
    · exact h0.2.2 a h1 t ht q hq
    · obtain rfl : a = bgN e p := by simpa using h1
      exact bgN_okQ e p t ht q hq
  · exact h
theorem foldl_ok {α : Type} {Pr : GEst → Prop} (f : List GEst → α → List GEst) (hf : ∀ es x, (∀ e ∈ es, Pr e) → ∀ e ∈ f es x, Pr e) : ∀ (l : List α) (es : List GEst), (∀ e ∈ es, Pr e) → ∀ e ∈ l.foldl f es, Pr e
  | [], _, h => h
  | x :: l, es, h => foldl_ok f hf l (f es x) (hf es x h)
theorem grpE_okQ (n : Nat) (cash : List Nat) (list : List N4) (pools : List N3) : ∀ e ∈ grpE n cash list pools, okQ e :=
  foldl_ok _ (addAg_okQ _) _ _ (foldl_ok _ (addClaim_okQ _) _ _ fun e he => by
    obtain ⟨i, _, rfl⟩ := List.mem_map.1 he
    exact mkEst_okQ cash i)
theorem grpE_okB (n : Nat) (cash : List Nat) (list : List N4) (pools : List N3) : ∀ e ∈ grpE n cash list pools, okB e :=
  foldl_ok _ (addAg_ok _) _ _ fun e he => by
    have h := foldl_ok (Pr := okC) (addClaim (1 + n % 4)) (addClaim_ok _) list _ (fun e he => by
      obtain ⟨i, _, rfl⟩ := List.mem_map.1 he
      exact ⟨by simp [mkEst], rfl⟩) e he
    exact ⟨h.1, by rw [h.2]; simp, by rw [h.2]; simp⟩
theorem okB_est2 {e : GEst} (h : okB e) (q : okQ e) : estOK2 e := by
  refine ⟨⟨q.1, q.2.1, by have := h.1; omega, fun a ha => ⟨fun t ht => by have := (h.2.2 a ha).2 t ht; omega, fun p hp => ?_⟩⟩, fun a ha => by have := (h.2.2 a ha).1; omega⟩
  obtain ⟨t, ht, hp⟩ := List.mem_flatten.1 hp
  exact q.2.2 a ha t ht p hp
theorem debts_ok (es : List GEst) : ∀ (l : List N3) (ds : List GDebt), (∀ d ∈ ds, ratOK d.whole ∧ d.legs.length ≤ 4) ∧ ds.length ≤ 3 → (∀ d ∈ l.foldl (addDb es) ds, ratOK d.whole ∧ d.legs.length ≤ 4) ∧ (l.foldl (addDb es) ds).length ≤ 3
  | [], _, h => h
  | x :: l, ds, h => by
    refine debts_ok es l (addDb es ds x) ?_
    unfold addDb
    split
    · refine ⟨fun d hd => ?_, by simp only [List.length_append, List.length_cons, List.length_nil]; omega⟩
      rcases List.mem_append.1 hd with h1 | h1
      · exact h.1 d h1
      · obtain rfl : d = owN ⟨es, ds⟩ x := by simpa using h1
        exact ⟨ratOK_enc (amt_qB _), owN_len _ _⟩
    · exact h
theorem grpN_ok (n : Nat) (cash : List Nat) (list : List N4) (pools debts : List N3) : grpOK2 (grpN n cash list pools debts) ∧ (grpN n cash list pools debts).debts.length ≤ 3 ∧ ∀ d ∈ (grpN n cash list pools debts).debts, d.legs.length ≤ 4 := by
  have h := debts_ok (grpE n cash list pools) debts [] ⟨by simp, by simp⟩
  exact ⟨⟨fun e he => okB_est2 (grpE_okB n cash list pools e he) (grpE_okQ n cash list pools e he), fun d hd => (h.1 d hd).1, fun d hd => by have := (h.1 d hd).2; omega⟩, h.2, fun d hd => (h.1 d hd).2⟩
theorem acall_args {P : Program} {f : FuncId} {args args' : List A1} {res : AV} (h : ACall P f args res) (hd : ∀ κ vs, den1s κ vs args' → den1s κ vs args) : ACall P f args' res :=
  ⟨h.1, fun w T vs hT hv => h.2 w T vs hT (hd _ _ hv)⟩
theorem den1s_cons {κ : Kx} {vs : List Value} {a : A1} {l : List A1} (h : den1s κ vs (a :: l)) : ∃ v vs', vs = v :: vs' ∧ den1 κ v a ∧ den1s κ vs' l := by
  cases vs with
  | nil => exact h.elim
  | cons v vs => exact ⟨v, vs, rfl, h.1, h.2⟩
theorem group_nil (n : Nat) (cash : List Nat) (list : List N4) (hn : n < 256) (hcs : ∀ x ∈ cash, x < 65536) (hl : ∀ x ∈ list, x.a < 65536 ∧ x.b < 65536 ∧ x.c < 65536 ∧ x.d < 65536)
    (hc0 : cash.length ≤ 9223372036854775807) (hl0 : list.length ≤ 9223372036854775807) : ACall Tryz.prog 15 [.one (.lit (.int .u8 n)), .one (.sh 1 cash.length (flat cU16 cash)), .one (.sh 4 list.length (flat cN4 list)), .one (.lit (.slice none 0 0)), .one (.lit (.slice none 0 0))] (.val (.agg (cGrp (grpN n cash list [] [])))) := by
  refine acall_args (group_A n cash list [] [] hn hcs hl (by simp) (by simp) hc0 hl0 (by simp) (by simp)) fun κ vs h => ?_
  obtain ⟨v1, vs1, rfl, d1, h⟩ := den1s_cons h
  obtain ⟨v2, vs2, rfl, d2, h⟩ := den1s_cons h
  obtain ⟨v3, vs3, rfl, d3, h⟩ := den1s_cons h
  obtain ⟨v4, vs4, rfl, d4, h⟩ := den1s_cons h
  obtain ⟨v5, vs5, rfl, d5, h⟩ := den1s_cons h
  exact ⟨d1, d2, d3, den_nilsh 3 d4, den_nilsh 3 d5, h⟩
end Go.Proofs.YtogeijhepjcbgaaGreatDoor
end
section
/- Lists of rationals; FewRats, SameRats: walked. -/
namespace Go.Proofs.YtogeijhepjcbgaaGreatDoor
open Go.RowKit
def RL (w : World) (v : Value) (l : List GRat) : Prop := rSlice 3 rRat w (LT w.heap.size) [v] l
theorem RL.below {w w' : World} {v : Value} {l : List GRat} (h : RL w v l) (hb : Below w.heap.size w w') : RL w' v l := (stays_rSlice stays_rRat).below h hb hb.size
theorem RL.drew {w : World} {v : Value} {l : List GRat} (h : RL w v l) : RL w.drew v l := h
theorem RL.open {w : World} {v : Value} {l : List GRat} (h : RL w v l) :
    ∃ a cap, v = .slice a l.length cap ∧ l.length ≤ 9223372036854775807 ∧ (l = [] ∨ ∃ b off, a = some ⟨b, off, none⟩ ∧ b < w.heap.size ∧ ∀ j (h : j < l.length), w.cell? ⟨b, off + j * 3, none⟩ = some (.bool l[j].neg) ∧ w.cell? ⟨b, off + j * 3 + 1, none⟩ = some (.string l[j].num) ∧ w.cell? ⟨b, off + j * 3 + 2, none⟩ = some (.string l[j].den) ∧ sB maxLen l[j]) := by
  obtain ⟨a, cap, hv, h1, h2, h3, h4⟩ := h
  simp only [List.cons.injEq, and_true] at hv
  refine ⟨a, cap, hv, len_le h1 h2, ?_⟩
  rcases h4 with h4 | ⟨b, off, h5, h6, h7⟩
  · exact .inl h4
  · refine .inr ⟨b, off, h5, h6, fun j hj => ?_⟩
    obtain ⟨cs, k1, k2, rfl, k3, k4⟩ := h7 j hj
    exact ⟨k2 0 (by decide), k2 1 (by decide), k2 2 (by decide), k3, k4⟩
end Go.Proofs.YtogeijhepjcbgaaGreatDoor
end
section
/- Amounts: walked; rows of rationals of the call's own. -/
namespace Go.Proofs.YtogeijhepjcbgaaGreatDoor
open Go.RowKit
theorem rRat_new (w : World) (S : Nat → Prop) (r : GRat) (h : sB maxLen r) : rRat w S [.bool r.neg, .string r.num, .string r.den] r := ⟨rfl, h.1, h.2⟩
def cellF (rs : List GRat) (j : Nat) : Value := if j % 3 = 0 then .bool (rs.getD (j / 3) gZ).neg else if j % 3 = 1 then .string (rs.getD (j / 3) gZ).num else .string (rs.getD (j / 3) gZ).den
def OwnR (w : World) (g n : Nat) (rs : List GRat) : Prop := rs.length = n ∧ Own w g 44 (n * 3) (cellF rs)
theorem cellF0 (rs : List GRat) (k : Nat) : cellF rs (k * 3) = .bool (rs.getD k gZ).neg := by
  unfold cellF; rw [if_pos (by omega), show k * 3 / 3 = k by omega]
theorem cellF1 (rs : List GRat) (k : Nat) : cellF rs (k * 3 + 1) = .string (rs.getD k gZ).num := by
  unfold cellF; rw [if_neg (by omega), if_pos (by omega), show (k * 3 + 1) / 3 = k by omega]
theorem cellF2 (rs : List GRat) (k : Nat) : cellF rs (k * 3 + 2) = .string (rs.getD k gZ).den := by
  unfold cellF; rw [if_neg (by omega), if_neg (by omega), show (k * 3 + 2) / 3 = k by omega]
theorem OwnR.facts {w : World} {g n : Nat} {rs : List GRat} (h : OwnR w g n rs) {k : Nat} (hk : k < n) :
    w.cell? ⟨g, k * 3, none⟩ = some (.bool (rs.getD k gZ).neg) ∧ w.cell? ⟨g, k * 3 + 1, none⟩ = some (.string (rs.getD k gZ).num) ∧ w.cell? ⟨g, k * 3 + 2, none⟩ = some (.string (rs.getD k gZ).den) ∧ (∀ j, w.frozen? ⟨g, j, none⟩ = false) ∧ g < w.heap.size := by
  have h1 := h.2.cell (j := k * 3) (by omega)
  have h2 := h.2.cell (j := k * 3 + 1) (by omega)
  have h3 := h.2.cell (j := k * 3 + 2) (by omega)
  rw [cellF0] at h1
  rw [cellF1] at h2
  rw [cellF2] at h3
  exact ⟨h1, h2, h3, fun j => h.2.frozen j, h.2.lt⟩
theorem OwnR.put {w : World} {g n : Nat} {rs : List GRat} (h : OwnR w g n rs) {k : Nat} (hk : k < n) (r : GRat) :
    OwnR (((w.setCell ⟨g, k * 3, none⟩ (.bool r.neg)).setCell ⟨g, k * 3 + 1, none⟩ (.string r.num)).setCell ⟨g, k * 3 + 2, none⟩ (.string r.den)) g n (rs.set k r) := by
  refine ⟨by rw [List.length_set]; exact h.1, (((h.2.set _ _).set _ _).set _ _).congr fun j hj => ?_⟩
  have hk' : k < rs.length := by rw [h.1]; exact hk
  unfold upd
  by_cases e2 : j = k * 3 + 2
  · rw [if_pos e2, e2, cellF2]; simp [List.getD, hk']
  · rw [if_neg e2]
    by_cases e1 : j = k * 3 + 1
    · rw [if_pos e1, e1, cellF1]; simp [List.getD, hk']
    · rw [if_neg e1]
      by_cases e0 : j = k * 3
      · rw [if_pos e0, e0, cellF0]; simp [List.getD, hk']
      · rw [if_neg e0]
        have hne : ¬ k = j / 3 := by omega
        unfold cellF
        simp [List.getD, List.getElem?_set, hne]
theorem OwnR.below {w w' : World} {g n : Nat} {rs : List GRat} (h : OwnR w g n rs) (hb : Below w.heap.size w w') : OwnR w' g n rs := ⟨h.1, h.2.below hb h.2.lt⟩
theorem OwnR.alloc {w : World} {g n : Nat} {rs : List GRat} (h : OwnR w g n rs) (o : Obj) : OwnR (w.alloc o) g n rs := ⟨h.1, h.2.alloc o⟩
theorem OwnR.drew {w : World} {g n : Nat} {rs : List GRat} (h : OwnR w g n rs) : OwnR w.drew g n rs := h
theorem OwnR.other {w : World} {g g' n : Nat} {rs : List GRat} (h : OwnR w g n rs) (hne : g' ≠ g) (r : GRat) : OwnR (put3 w g' r) g n rs := ⟨h.1, ((h.2.other hne _ _).other hne _ _).other hne _ _⟩
theorem OwnR.new (w : World) (n : Nat) : OwnR (w.alloc (.cells (madeCells #[.bool false, .string { data := #[] }, .string { data := #[] }] (n * 3)) 44)) w.heap.size n (List.replicate n gZ) := by
  refine ⟨by simp, ?_⟩
  unfold Own
  rw [heap_alloc_new]
  congr 2
  apply Array.ext
  · simp [madeCells]
  · intro i h1 h2
    have hi : i < n * 3 := by simpa using h2
    have e : (List.replicate n gZ).getD (i / 3) gZ = gZ := by simp [List.getD, List.getElem?_replicate]; split <;> rfl
    simp only [madeCells, Array.getElem_map, Array.getElem_range, cellF, e]
    have : i % 3 = 0 ∨ i % 3 = 1 ∨ i % 3 = 2 := by omega
    rcases this with h | h | h <;> simp [h] <;> rfl
theorem OwnR.reads {w : World} {g n : Nat} {rs : List GRat} (h : OwnR w g n rs) (hn : n ≤ maxLen) (hs : ∀ r ∈ rs, sB maxLen r) : RL w (.slice (some ⟨g, 0, none⟩) n n) rs := by
  refine ⟨some ⟨g, 0, none⟩, n, by rw [h.1], by rw [h.1]; exact Nat.le_refl _, hn, by simp, .inr ⟨g, 0, rfl, h.2.lt, fun j hj => ⟨[.bool rs[j].neg, .string rs[j].num, .string rs[j].den], rfl, ?_, rRat_new _ _ _ (hs _ (List.getElem_mem hj))⟩⟩⟩
  intro c hc
  obtain ⟨f0, f1, f2, _⟩ := h.facts (k := j) (by rw [← h.1]; exact hj)
  have e : rs.getD j gZ = rs[j] := by simp [List.getD, hj]
  rw [e] at f0 f1 f2
  have : c = 0 ∨ c = 1 ∨ c = 2 := by omega
  rcases this with rfl | rfl | rfl
  · simpa using f0
  · simpa using f1
  · simpa using f2
end Go.Proofs.YtogeijhepjcbgaaGreatDoor
end
section
/- guarantee.Refunds: walked. -/
namespace Go.Proofs.YtogeijhepjcbgaaGreatDoor
open Go.RowKit
attribute [local go_sem ↓] Go.wp_at_zero Go.wp_at_succ
def RSt (w wr : World) (W : GRat) (n : Nat) (rs : List GRat) (s o : GRat) : Prop :=
  Bx wr w.heap.size W ∧ OwnR wr (w.heap.size + 1) n rs ∧ Bx wr (w.heap.size + 1 + 1) s ∧ Bx wr (w.heap.size + 1 + 1 + 1) o ∧ Below w.heap.size w wr
section
variable {w wr : World} {W : GRat} {n : Nat} {rs : List GRat} {s o : GRat}
theorem RSt.next {w' : World} (h : RSt w wr W n rs s o) (hb : Below wr.heap.size wr w') : RSt w w' W n rs s o := ⟨h.1.below hb, h.2.1.below hb, h.2.2.1.below hb, h.2.2.2.1.below hb, h.2.2.2.2.step hb⟩
theorem RSt.drew (h : RSt w wr W n rs s o) : RSt w wr.drew W n rs s o := ⟨h.1.drew, h.2.1.drew, h.2.2.1.drew, h.2.2.2.1.drew, Below.drew h.2.2.2.2⟩
theorem RSt.alloc (h : RSt w wr W n rs s o) (b : Obj) : RSt w (wr.alloc b) W n rs s o := h.next ((Below.refl _ _).alloc (Nat.le_refl _) _)
theorem RSt.putO (h : RSt w wr W n rs s o) (a : GRat) : RSt w (put3 wr (w.heap.size + 1 + 1 + 1) a) W n rs s a :=
  ⟨h.1.other (by omega) a, h.2.1.other (by omega) a, h.2.2.1.other (by omega) a, h.2.2.2.1.put a, below_put h.2.2.2.2 (by omega) a⟩
theorem RSt.lt (h : RSt w wr W n rs s o) : w.heap.size + 1 + 1 + 1 < wr.heap.size := Blk3.lt h.2.2.2.1
end
end Go.Proofs.YtogeijhepjcbgaaGreatDoor
end
section
/- insolvencylaw18.awake: walked. -/
namespace Go.Proofs.YtogeijhepjcbgaaGreatDoor
open Go.RowKit
attribute [local go_sem ↓] Go.wp_at_zero Go.wp_at_succ
theorem RL.get {w : World} {v : Value} {l : List GRat} (h : RL w v l) {k : Nat} (hk : k < l.length) :
    ∃ b off cap, v = .slice (some ⟨b, off, none⟩) l.length cap ∧ b < w.heap.size ∧ l.length ≤ 9223372036854775807 ∧ ∀ j (h : j < l.length), w.cell? ⟨b, off + j * 3, none⟩ = some (.bool l[j].neg) ∧ w.cell? ⟨b, off + j * 3 + 1, none⟩ = some (.string l[j].num) ∧ w.cell? ⟨b, off + j * 3 + 2, none⟩ = some (.string l[j].den) ∧ sB maxLen l[j] := by
  obtain ⟨a, cap, rfl, h1, h2⟩ := h.open
  rcases h2 with h2 | ⟨b, off, rfl, hb, h3⟩
  · rw [h2] at hk; simp at hk
  · exact ⟨b, off, cap, rfl, hb, h1, h3⟩
def AwS (w5 : World) (b off : Nat) (q0 q20 : GRat) (w' : World) : Prop := Below w5.heap.size w5 w' ∧ w'.cell? ⟨b, off, none⟩ = some (.bool q0.neg) ∧ w'.cell? ⟨b, off + 1, none⟩ = some (.string q0.num) ∧ w'.cell? ⟨b, off + 2, none⟩ = some (.string q0.den) ∧ w'.cell? ⟨b, off + 3, none⟩ = some (.bool q20.neg) ∧ w'.cell? ⟨b, off + 3 + 1, none⟩ = some (.string q20.num) ∧ w'.cell? ⟨b, off + 3 + 2, none⟩ = some (.string q20.den) ∧ w'.cell? ⟨b, off + 6, none⟩ = some (.bool q20.neg) ∧ w'.cell? ⟨b, off + 6 + 1, none⟩ = some (.string q20.num) ∧ w'.cell? ⟨b, off + 6 + 2, none⟩ = some (.string q20.den)
theorem AwS.drew {w5 W : World} {b off : Nat} {q0 q20 : GRat} (h : AwS w5 b off q0 q20 W) : AwS w5 b off q0 q20 W.drew := ⟨Below.drew h.1, h.2⟩
theorem AwS.next {w5 W V : World} {b off : Nat} {q0 q20 : GRat} (h : AwS w5 b off q0 q20 W) (hb : b < w5.heap.size) (hV : Below W.heap.size W V) : AwS w5 b off q0 q20 V := by
  have hc : ∀ o, V.cell? ⟨b, o, none⟩ = W.cell? ⟨b, o, none⟩ := fun o => hV.cell (p := ⟨b, o, none⟩) (Nat.lt_of_lt_of_le hb h.1.size)
  obtain ⟨h0, h⟩ := h
  refine ⟨h0.step hV, ?_⟩
  simp only [hc]
  exact h
end Go.Proofs.YtogeijhepjcbgaaGreatDoor
end
section
/- GuaranteeCheck: the law's own function; walked by the abstract machine. -/
namespace Go.Proofs.YtogeijhepjcbgaaGreatDoor
open Go Go.RowKit
theorem acall_law {P : Program} {f : FuncId} {args : List A1} {vs : List Value} {w : World} (h : ACall P f args (one (.bool true))) (hd : den1s (kAll w) vs args) :
    Calls P f vs.toArray w fun e w' => e = .returned (.bool true) ∧ Below w.heap.size w w' :=
  (h.2 w (LT w.heap.size) vs (fun _ h => h) hd).mono fun e w' ⟨v, he, hb, hv⟩ => by
    have : v = .bool true := hv.1
    subst this
    exact ⟨he, hb⟩
theorem den_oneC {α : Type} {enc : α → List C} {ok : α → Prop} {W : World} {v : Value} {a : α} {c : C} (o : rC enc ok W (LT W.heap.size) [v] a) (he : enc a = [c]) : den1 (kAll W) v (.one c) ∧ ok a := by
  obtain ⟨h, k⟩ := o
  rw [he] at h
  exact ⟨h.1, k⟩
end Go.Proofs.YtogeijhepjcbgaaGreatDoor
end
