/- The arithmetic of both sides as contracts on plain data. -/
import Derived.Test.YtokmkopihhnggaaGreatDoorLawM
import Derived.Test.YtokmkopihhnggaaGreatDoorVal2M
import Derived.Test.YtokmkopihhnggaaGreatDoorNat18M
import Derived.Test.YtokmkopihhnggaaGreatDoorAbGM
import Derived.Test.YtokmkopihhnggaaGreatDoorBl6M
import Derived.Test.YtokmkopihhnggaaGreatDoorRw6M
import Derived.Test.YtokmkopihhnggaaGreatDoorAbBM
import Derived.Test.YtokmkopihhnggaaGreatDoorBl1M
import Derived.Test.YtokmkopihhnggaaGreatDoorNumM
set_option linter.unusedVariables false
set_option linter.unusedSimpArgs false
namespace Go.Proofs.YtokmkopihhnggaaGreatDoor
open Go Go.RowKit
theorem aAdd (r1 r2 : GRat) (m n : Nat) (h1 : sB m r1) (h2 : sB n r2) (hm : m ≤ 100000000000) (hn : n ≤ 100000000000) (hm0 : 0 < m) (hn0 : 0 < n) : ACall Tryz.prog 31 [.agg (cRat r1), .agg (cRat r2)] (.val (.agg (cRat (enc (qOf r1 + qOf r2))))) :=
 acall_flat (fnOK_of Tryz.func31 (by decide) (by kernel_rfl)) [vRat r1, vRat r2] (vRat (enc (qOf r1 + qOf r2))) fun w => qAdd_any r1 r2 m n w h1 h2 hm hn hm0 hn0
theorem bFix (r : GRat) (h1 : r.num.size ≤ 500000000000) (h2 : r.den.size ≤ 500000000000) : ACall Tryz.prog 116 [.agg (cRat r)] (.val (.agg (cRat (enc (qOf r))))) :=
 acall_flat (fnOK_of Tryz.func116 (by decide) (by kernel_rfl)) [vRat r] (vRat (enc (qOf r))) fun w => rFix_any r w h1 h2
structure GCls where
 est : Int
 rank : Int
 small : Bool
 claims : List Int


def tOK (Q : GPart → Prop) (T : T3) : Prop := (∀ p ∈ T.a, Q p) ∧ (∀ p ∈ T.b, Q p) ∧ ∀ p ∈ T.c, Q p
theorem put_tOK {Q : GPart → Prop} (T : T3) (x : Nat) (p : GPart) (h : tOK Q T) (hp : Q p) : tOK Q (T.put x p) := by
 unfold T3.put
 have key : ∀ l : List GPart, (∀ q ∈ l, Q q) → ∀ q ∈ l ++ [p], Q q := fun l hl q hq => by
  rcases List.mem_append.1 hq with h1 | h1
  ·exact hl q h1
  obtain rfl : q = p := by simpa using h1
  exact hp
 split
 ·exact ⟨key _ h.1, h.2.1, h.2.2⟩
 split
 ·exact ⟨h.1, key _ h.2.1, h.2.2⟩
 exact ⟨h.1, h.2.1, key _ h.2.2⟩
theorem bgL_tOK {Q : GPart → Prop} (agrs : List GAgr) (p : N3) (n : Nat) (hQ : ∀ i, i < n → frA i agrs = true → Q (bgP p i)) : ∀ (l : List GClaim) (i : Nat) (T : T3), i + l.length ≤ n → tOK Q T → tOK Q (bgL agrs p l i T)
 | [], _, _, _, h => h
 | _ :: l, i, T, hl, h => by
  rw [List.length_cons] at hl
  refine bgL_tOK agrs p n hQ l (i + 1) _ (by omega) ?_
  unfold bgS
  split
  ·exact h
  split
  ·exact put_tOK _ _ _ h (hQ i (by omega) ‹_›)
  exact h
theorem getD_at (es : List GEst) (j : Nat) (h : j < es.length) : es.getD j ztEst = es[j] := by
 rw [List.getD_eq_getElem?_getD, List.getElem?_eq_getElem h]; rfl
theorem foldl_inv {α β : Type} {Pr : β → Prop} (f : β → α → β) (hf : ∀ b x, Pr b → Pr (f b x)) : ∀ (l : List α) (b : β), Pr b → Pr (l.foldl f b)
 | [], _, h => h
 | x :: l, b, h => foldl_inv f hf l (f b x) (hf b x h)


end Go.Proofs.YtokmkopihhnggaaGreatDoor
namespace Go.Proofs.YtokmkopihhnggaaGreatDoor
open Go.RowKit
def RL (w : World) (v : Value) (l : List GRat) : Prop := rSlice 3 rRat w (LT w.heap.size) [v] l
theorem RL.below {w w' : World} {v : Value} {l : List GRat} (h : RL w v l) (hb : Below w.heap.size w w') : RL w' v l := (stays_rSlice stays_rRat).below h hb hb.size
theorem RL.drew {w : World} {v : Value} {l : List GRat} (h : RL w v l) : RL w.drew v l := h
theorem RL.open {w : World} {v : Value} {l : List GRat} (h : RL w v l) :
  ∃ a cap, v = .slice a l.length cap ∧ l.length ≤ 9223372036854775807 ∧ (l = [] ∨ ∃ b off, a = some ⟨b, off, none⟩ ∧ b < w.heap.size ∧ ∀ j (h : j < l.length), w.cell? ⟨b, off + j * 3, none⟩ = some (.bool l[j].neg) ∧ w.cell? ⟨b, off + j * 3 + 1, none⟩ = some (.string l[j].num) ∧ w.cell? ⟨b, off + j * 3 + 2, none⟩ = some (.string l[j].den) ∧ sB maxLen l[j]) := by
 obtain ⟨a, cap, hv, h1, h2, h3, h4⟩ := h
 simp only [List.cons.injEq, and_true] at hv
 refine ⟨a, cap, hv, len_le h1 h2, ?_⟩
 rcases h4 with h4 | ⟨b, off, h5, h6, h7⟩
 ·exact .inl h4
 refine .inr ⟨b, off, h5, h6, fun j hj => ?_⟩
 obtain ⟨cs, k1, k2, rfl, k3, k4⟩ := h7 j hj
 exact ⟨k2 0 (by decide), k2 1 (by decide), k2 2 (by decide), k3, k4⟩
theorem rRat_new (w : World) (S : Nat → Prop) (r : GRat) (h : sB maxLen r) : rRat w S [.bool r.neg, .string r.num, .string r.den] r := ⟨rfl, h.1, h.2⟩
def cellF (rs : List GRat) (j : Nat) : Value := if j % 3 = 0 then .bool (rs.getD (j / 3) gZ).neg else if j % 3 = 1 then .string (rs.getD (j / 3) gZ).num else .string (rs.getD (j / 3) gZ).den
def OwnR (w : World) (g n : Nat) (rs : List GRat) : Prop := rs.length = n ∧ Own w g 32 (n * 3) (cellF rs)
theorem cellF0 (rs : List GRat) (k : Nat) : cellF rs (k * 3) = .bool (rs.getD k gZ).neg := by
 unfold cellF; rw [if_pos (by omega), show k * 3 / 3 = k by omega]
theorem cellF1 (rs : List GRat) (k : Nat) : cellF rs (k * 3 + 1) = .string (rs.getD k gZ).num := by
 unfold cellF; rw [if_neg (by omega), if_pos (by omega), show (k * 3 + 1) / 3 = k by omega]
theorem cellF2 (rs : List GRat) (k : Nat) : cellF rs (k * 3 + 2) = .string (rs.getD k gZ).den := by
 unfold cellF; rw [if_neg (by omega), if_neg (by omega), show (k * 3 + 2) / 3 = k by omega]
theorem OwnR.facts {w : World} {g n : Nat} {rs : List GRat} (h : OwnR w g n rs) {k : Nat} (hk : k < n) :
  w.cell? ⟨g, k * 3, none⟩ = some (.bool (rs.getD k gZ).neg) ∧ w.cell? ⟨g, k * 3 + 1, none⟩ = some (.string (rs.getD k gZ).num) ∧ w.cell? ⟨g, k * 3 + 2, none⟩ = some (.string (rs.getD k gZ).den) ∧ (∀ j, w.frozen? ⟨g, j, none⟩ = false) ∧ g < w.heap.size := by
 have h1 := h.2.cell (j := k * 3) (by omega)
 have h2 := h.2.cell (j := k * 3 + 1) (by omega)
 have h3 := h.2.cell (j := k * 3 + 2) (by omega)
 rw [cellF0] at h1
 rw [cellF1] at h2
 rw [cellF2] at h3
 exact ⟨h1, h2, h3, fun j => h.2.frozen j, h.2.lt⟩
theorem OwnR.put {w : World} {g n : Nat} {rs : List GRat} (h : OwnR w g n rs) {k : Nat} (hk : k < n) (r : GRat) :
  OwnR (((w.setCell ⟨g, k * 3, none⟩ (.bool r.neg)).setCell ⟨g, k * 3 + 1, none⟩ (.string r.num)).setCell ⟨g, k * 3 + 2, none⟩ (.string r.den)) g n (rs.set k r) := by
 refine ⟨by rw [List.length_set]; exact h.1, (((h.2.set _ _).set _ _).set _ _).congr fun j hj => ?_⟩
 have hk' : k < rs.length := by rw [h.1]; exact hk
 unfold upd
 by_cases e2 : j = k * 3 + 2
 ·rw [if_pos e2, e2, cellF2]; simp [List.getD, hk']
 rw [if_neg e2]
 by_cases e1 : j = k * 3 + 1
 ·rw [if_pos e1, e1, cellF1]; simp [List.getD, hk']
 rw [if_neg e1]
 by_cases e0 : j = k * 3
 ·rw [if_pos e0, e0, cellF0]; simp [List.getD, hk']
 rw [if_neg e0]
 have hne : ¬ k = j / 3 := by omega
 unfold cellF
 simp [List.getD, List.getElem?_set, hne]
theorem OwnR.below {w w' : World} {g n : Nat} {rs : List GRat} (h : OwnR w g n rs) (hb : Below w.heap.size w w') : OwnR w' g n rs := ⟨h.1, h.2.below hb h.2.lt⟩
theorem OwnR.alloc {w : World} {g n : Nat} {rs : List GRat} (h : OwnR w g n rs) (o : Obj) : OwnR (w.alloc o) g n rs := ⟨h.1, h.2.alloc o⟩
theorem OwnR.drew {w : World} {g n : Nat} {rs : List GRat} (h : OwnR w g n rs) : OwnR w.drew g n rs := h
theorem OwnR.other {w : World} {g g' n : Nat} {rs : List GRat} (h : OwnR w g n rs) (hne : g' ≠ g) (r : GRat) : OwnR (put3 w g' r) g n rs := ⟨h.1, ((h.2.other hne _ _).other hne _ _).other hne _ _⟩
theorem OwnR.new (w : World) (n : Nat) : OwnR (w.alloc (.cells (madeCells #[.bool false, .string { data := #[] }, .string { data := #[] }] (n * 3)) 32)) w.heap.size n (List.replicate n gZ) := by
 refine ⟨by simp, ?_⟩
 unfold Own
 rw [heap_alloc_new]
 congr 2
 apply Array.ext
 ·simp [madeCells]
 intro i h1 h2
 have hi : i < n * 3 := by simpa using h2
 have e : (List.replicate n gZ).getD (i / 3) gZ = gZ := by simp [List.getD, List.getElem?_replicate]; split <;> rfl
 simp only [madeCells, Array.getElem_map, Array.getElem_range, cellF, e]
 have : i % 3 = 0 ∨ i % 3 = 1 ∨ i % 3 = 2 := by omega
 rcases this with h | h | h <;> simp [h] <;> rfl
theorem OwnR.reads {w : World} {g n : Nat} {rs : List GRat} (h : OwnR w g n rs) (hn : n ≤ maxLen) (hs : ∀ r ∈ rs, sB maxLen r) : RL w (.slice (some ⟨g, 0, none⟩) n n) rs := by
 refine ⟨some ⟨g, 0, none⟩, n, by rw [h.1], by rw [h.1]; exact Nat.le_refl _, hn, by simp, .inr ⟨g, 0, rfl, h.2.lt, fun j hj => ⟨[.bool rs[j].neg, .string rs[j].num, .string rs[j].den], rfl, ?_, rRat_new _ _ _ (hs _ (List.getElem_mem hj))⟩⟩⟩
 intro c hc
 obtain ⟨f0, f1, f2, _⟩ := h.facts (k := j) (by rw [← h.1]; exact hj)
 have e : rs.getD j gZ = rs[j] := by simp [List.getD, hj]
 rw [e] at f0 f1 f2
 have : c = 0 ∨ c = 1 ∨ c = 2 := by omega
 rcases this with rfl | rfl | rfl
 ·simpa using f0
 ·simpa using f1
 simpa using f2
end Go.Proofs.YtokmkopihhnggaaGreatDoor
