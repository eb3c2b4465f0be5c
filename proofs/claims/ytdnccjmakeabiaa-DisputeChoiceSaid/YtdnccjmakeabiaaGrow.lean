/- Slices that the call itself grows by append, element by element, read as lists; slices that it makes. -/
import Derived.Test.YtdnccjmakeabiaaBase
namespace Go.Proofs.Ytdnccjmakeabiaa
open Go.RowKit

theorem append_block {P : Program} (w : World) (base : Nat) (t ty e : TypeId) (i : TypeInfo) (z : Value) (size bytes : Nat) (ht : P.underlying t = some (.slice e)) (hi : P.info? e = some i) (hz : i.zero = some z)
    (hsize : i.size = size) (hby : i.bytes = bytes) (hzs : z.cells.size = size) (hsz : 0 < size)
    (v : Value) (n : Nat) (xs : List Value) (hown : w.ownsRow base e size v n xs)
    (a : Addr) (m c : Nat) (news : List Value) (hl : news.length = m * size) (hnews : ∀ j u, news[j]? = some u → w.cell? (a.add j) = some u) (h1 : ∀ u ∈ news, u.oneCell' = true)
    (h63 : n + m ≤ maxLen) (hbytes : (n + m) * bytes ≤ 140737488355328) (hbase : base ≤ w.heap.size) (hm : 0 < m) :
    ∃ v' w', (Builtin.append_ #[t, t] ty #[v, .slice (some a) m c]).run P w = .ok v' w' ∧ w'.ownsRow base e size v' (n + m) (xs ++ news) ∧ w.grownBy w' v.ownBlock ∧
      (v'.ownBlock = v.ownBlock ∨ v'.ownBlock = some w.heap.size) := by
  obtain ⟨v', w', hr, h2, h3, _⟩ := run_append_own (P := P) w base t ty e i z size bytes ht hi hz hsize hby hzs hsz v n xs hown a m c news hl hnews h1 h63 hbytes hbase
  refine ⟨v', w', hr, h2, h3, ?_⟩
  subst hsize; subst hby
  have hsmall : n + m ≤ 9223372036854775807 := by simp only [maxLen] at h63; omega
  rcases hown.2 with ⟨rfl, rfl⟩ | ⟨g, cap, cur, rfl, hbg, hg, hnc, hcm, hcs, htake⟩
  · have hq := run_append_nil (P := P) w t ty e i z ht hi hz a m c news hl hnews (by omega) (by omega) (by have hb := hbytes; simp only [Nat.zero_add] at hb; omega)
    rw [hq] at hr
    injection hr with e1 _
    subst e1
    exact .inr rfl
  · by_cases hroom : n + m ≤ cap
    · have hfit : n * i.size + news.length ≤ cur.size := by rw [hl, hcs, ← Nat.add_mul]; exact Nat.mul_le_mul_right _ hroom
      have hq := run_append_room (P := P) w t ty e i ht hi g n cap cur hg a m c news hl hnews h1 hroom hfit
      rw [hq] at hr
      injection hr with e1 _
      subst e1
      exact .inl rfl
    · have holds : ∀ j u, xs[j]? = some u → w.cell? ((⟨g, 0, none⟩ : Addr).add j) = some u := hown.cells (g := g) rfl
      have hq := run_append_grow (P := P) w t ty e i z ht hi hz ⟨g, 0, none⟩ n cap xs hown.1 holds a m c news hl hnews (by omega) (by omega) (growslice_fits (by omega) hbytes)
      rw [hq] at hr
      injection hr with e1 _
      subst e1
      exact .inr rfl

/-- What is below the heap's end and not in the row of v. -/
abbrev Beside (w : World) (v : Value) : Nat → Prop := fun b => b < w.heap.size ∧ some b ≠ v.ownBlock

/-- v is a slice of the call's own, from block base on, that reads as l and may be appended to. -/
def rGrow {α : Type} (E sz : Nat) (R : CRep α) (base : Nat) (w : World) (v : Value) (l : List α) : Prop :=
  ∃ xs, w.ownsRow base E sz v l.length xs ∧ ∀ j (hj : j < l.length), R w (Beside w v) ((xs.drop (j * sz)).take sz) l[j]

theorem rGrow.nil {α : Type} (E sz : Nat) (R : CRep α) (base : Nat) (w : World) : rGrow E sz R base w (.slice none 0 0) ([] : List α) :=
  ⟨[], World.ownsRow_nil _ _ _ _, fun j hj => by simp at hj⟩

theorem rGrow.slice {α : Type} {E sz : Nat} {R : CRep α} (hR : Stays R) {base : Nat} {w : World} {v : Value} {l : List α} (h : rGrow E sz R base w v l) :
    rSlice sz R w (LT w.heap.size) [v] l := by
  obtain ⟨xs, ⟨h1, h2⟩, h3⟩ := h
  rcases h2 with ⟨rfl, h2⟩ | ⟨g, cap, cur, rfl, h2, h4, h5, h6, h7, h8⟩
  · have : l = [] := List.eq_nil_of_length_eq_zero h2
    subst this
    exact ⟨none, 0, rfl, Nat.le_refl _, by unfold maxLen; omega, fun _ => rfl, .inl rfl⟩
  · refine ⟨some ⟨g, 0, none⟩, cap, rfl, h5, h6, by simp, .inr ⟨g, 0, rfl, (Array.getElem?_eq_some_iff.1 h4).1, fun j hj => ⟨(xs.drop (j * sz)).take sz, ?_, ?_, ?_⟩⟩⟩
    · have : (j + 1) * sz ≤ l.length * sz := Nat.mul_le_mul_right _ hj
      rw [Nat.add_mul] at this
      simp [h1]; omega
    · intro c hc
      have : (j + 1) * sz ≤ l.length * sz := Nat.mul_le_mul_right _ hj
      rw [Nat.add_mul] at this
      rw [List.getElem?_take, if_pos hc, List.getElem?_drop, ← h8, List.getElem?_take, if_pos (by omega)]
      simp [World.cell?, h4]
    · exact hR _ _ _ _ _ _ (h3 j hj) (Frame.refl _ _) fun b hb => hb.1

theorem rGrow.kept {α : Type} {E sz : Nat} {R : CRep α} (hR : Stays R) {base : Nat} {w w' : World} {v : Value} {l : List α} (h : rGrow E sz R base w v l) (hb : Below w.heap.size w w') : rGrow E sz R base w' v l := by
  obtain ⟨xs, h1, h3⟩ := h
  refine ⟨xs, h1.kept (row := none) ⟨hb.os, hb.tape, hb.output, hb.size, fun k hk _ => hb.block k hk⟩ (by cases v.ownBlock <;> simp), fun j hj => hR _ _ _ _ _ _ (h3 j hj) (fun b hb' => hb.block b hb'.1) fun b hb' => ⟨Nat.lt_of_lt_of_le hb'.1 hb.size, hb'.2⟩⟩

/-- The row of v lies from base on, below the heap's end. -/
theorem rGrow.lt {α : Type} {E sz : Nat} {R : CRep α} {base : Nat} {w : World} {v : Value} {l : List α} (h : rGrow E sz R base w v l) : ∀ k, v.ownBlock = some k → base ≤ k ∧ k < w.heap.size := h.choose_spec.1.lt

/-- One element more. -/
theorem rGrow.push {α : Type} {E sz : Nat} {R : CRep α} (hR : Stays R) (hsz : 0 < sz) {base : Nat} {w w' : World} {v v' : Value} {l : List α} {x : α} {news : List Value} (h3 : ∀ xs, w.ownsRow base E sz v l.length xs → w'.ownsRow base E sz v' (l.length + 1) (xs ++ news))
    (h : rGrow E sz R base w v l) (hn : news.length = sz) (hg : w.grownBy w' v.ownBlock) (hv : v'.ownBlock = v.ownBlock ∨ v'.ownBlock = some w.heap.size) (hx : R w (Beside w v) news x) : rGrow E sz R base w' v' (l ++ [x]) := by
  obtain ⟨xs, h1, h2⟩ := h
  have h4 := h3 xs h1
  have hst : ∀ cs (a : α), R w (Beside w v) cs a → R w' (Beside w' v') cs a := fun cs a hr => hR _ _ _ _ _ _ hr (fun b hb => hg.block b hb.1 hb.2) fun b hb => by
    refine ⟨Nat.lt_of_lt_of_le hb.1 hg.size, ?_⟩
    rcases hv with hv | hv
    · rw [hv]; exact hb.2
    · rw [hv]; intro e; have := Option.some.inj e; have := hb.1; omega
  refine ⟨xs ++ news, by simpa using h4, fun j hj => ?_⟩
  have hlen := h1.1
  by_cases hj' : j < l.length
  · have : (j + 1) * sz ≤ l.length * sz := Nat.mul_le_mul_right _ hj'
    rw [Nat.add_mul] at this
    rw [List.getElem_append_left hj', List.drop_append_of_le_length (by omega), List.take_append_of_le_length (by simp; omega)]
    exact hst _ _ (h2 j hj')
  · have hj2 : j = l.length := by simp at hj; omega
    subst hj2
    have e1 : (l ++ [x])[l.length] = x := by simp
    rw [e1, ← hlen, List.drop_left, List.take_of_length_le (by omega)]
    exact hst _ _ hx

/-- THE WALK's LAW: 's = append(s, x)', s of the call's own, x one element of a new block. -/
theorem wpList_push {α : Type} {P : Program} (w : World) {ops : Array Oper} {rest : List Oper} {o : Oper} {a : Act} {Q : Exit → Act → World → Prop} (hgd : o.guard = none) (s x : Operand) (t : TypeId)
    (ho : o.op = .call { callee := .builtin .append, args := #[s, x], argTypes := #[t, t] })
    {R : CRep α} (hR : Stays R) (base E sz bytes : Nat) (z : Value) (ht : P.underlying t = some (.slice E)) (hi : (P.info? E).map (fun i => (i.zero, i.size, i.bytes)) = some (some z, sz, bytes)) (hzs : z.cells.size = sz) (hsz : 0 < sz)
    (v : Value) (l : List α) (hs : a.eval s = v) (hv : rGrow E sz R base w v l) (hbase : base ≤ w.heap.size) (hbytes : (l.length + 1) * bytes ≤ 140737488355328) (h63 : l.length < 9223372036854775807)
    (b c : Nat) (news : List Value) (hx : a.eval x = .slice (some ⟨b, 0, none⟩) 1 c) (hl : news.length = sz) (hb : ∃ fz, w.heap[b]? = some (.cells news.toArray E fz)) (h1 : news.all Value.oneCell' = true)
    (y : α) (hy : R w (Beside w v) news y)
    (h : ∀ v' w', rGrow E sz R base w' v' (l ++ [y]) → w.grownBy w' v.ownBlock → Below base w w' → wpList P ops Q rest (a.put o.dst v') w') : wpList P ops Q (o :: rest) a w := by
  refine wpList_plain hgd fun K hK => ?_
  obtain ⟨i, hi1, hi2, hi3, hi4⟩ := info_parts hi
  obtain ⟨xs, hxs, hel⟩ := hv
  obtain ⟨fz, hb⟩ := hb
  have hnews : ∀ j u, news[j]? = some u → w.cell? ((⟨b, 0, none⟩ : Addr).add j) = some u := by
    intro j u hu
    have hadd : (⟨b, 0, none⟩ : Addr).add j = ⟨b, j, none⟩ := by unfold Addr.add; split <;> simp_all
    rw [hadd]; simp [World.cell?, hb, hu]
  obtain ⟨v', w', hr, h2, h3, h4⟩ := append_block (P := P) w base t o.type E i z sz bytes ht hi1 hi2 hi3 hi4 hzs hsz v l.length xs hxs ⟨b, 0, none⟩ 1 c news (by omega) hnews (fun u hu => List.all_eq_true.1 h1 u hu) (by unfold maxLen; omega) (by omega) hbase (by omega)
  have hrow : ∀ k, v.ownBlock = some k → base ≤ k := fun k hk => (hxs.lt k hk).1
  have hbel : Below base w w' := (Below.refl base w).grown h3 hbase hrow
  refine ?_
  unfold Oper.wp execOp
  simp only [ho, resolve, invoke, builtin, Sem.run_bind, Sem.run_pure, Result.andThen_ok, List.map_toArray, List.map_cons, List.map_nil, hs, hx, hr]
  refine hK _ _ (h v' w' ?_ h3 hbel)
  refine rGrow.push hR hsz (news := news) (fun xs' hxs' => ?_) ⟨xs, hxs, hel⟩ hl h3 h4 hy
  have : xs' = xs := by
    rcases hxs'.2 with ⟨e1, e2⟩ | ⟨g, cap, cur, e1, _, hg, _, _, _, ht'⟩
    · have := hxs.1; have := hxs'.1
      rw [e2] at *
      rw [List.eq_nil_of_length_eq_zero (by omega : xs.length = 0), List.eq_nil_of_length_eq_zero (by omega : xs'.length = 0)]
    · rcases hxs.2 with ⟨f1, _⟩ | ⟨g', cap', cur', f1, _, hg', _, _, _, ht''⟩
      · rw [f1] at e1; cases e1
      · rw [f1] at e1
        injection e1 with e1 _ _
        injection e1 with e1
        injection e1 with e1
        subst e1
        rw [hg] at hg'
        injection hg' with hg'
        injection hg' with hg' _ _
        rw [← ht', ← ht'', hg']
  rw [this]; exact h2

/-- make([]T, n), as a fact of the walk: a row of n zero elements. -/
theorem make_many {P : Program} {t e : TypeId} {z : Value} {sz bytes : Nat} (ht : P.underlying t = some (.slice e)) (hi : (P.info? e).map (fun i => (i.zero, i.size, i.bytes)) = some (some z, sz, bytes))
    (w : World) (n : Nat) (hb : bytes * n ≤ 281474976710656) (hn : n ≤ 9223372036854775807) :
    (Instr.makeSlice t (.int .i64 n) (.int .i64 n)).run P w = .ok (.slice (some ⟨w.heap.size, 0, none⟩) n n) (w.alloc (.cells (madeCells z.cells (n * sz)) e)) := by
  obtain ⟨i, hi1, hi2, hi3, hi4⟩ := info_parts hi
  have h := run_make (P := P) w t e i z ht hi1 hi2 .i64 .i64 n n (by omega) (by omega) (by rw [hi4]; omega) (by omega)
  rw [h, hi3]
  simp

theorem madeCells_get (z : Array Value) (n j c sz : Nat) (hz : z.size = sz) (hj : j < n) (hc : c < sz) : (madeCells z (n * sz))[j * sz + c]? = z[c]? := by
  have h1 : (j + 1) * sz ≤ n * sz := Nat.mul_le_mul_right _ hj
  rw [Nat.add_mul] at h1
  have h2 : (j * sz + c) % z.size = c := by rw [hz, Nat.add_comm, Nat.add_mul_mod_self_right, Nat.mod_eq_of_lt hc]
  have h3 : j * sz + c < n * sz := by omega
  simp only [madeCells, Array.getElem?_map, Array.getElem?_range, h3, if_pos, Option.map_some, h2]
  rw [getElem!_pos z c (by omega), Array.getElem?_eq_getElem (by omega)]

/-- A made row of zero elements, read. -/
theorem made_reads {α : Type} {sz : Nat} {R : CRep α} {W : World} {S : Nat → Prop} {b n cap : Nat} {z : Array Value} {E : TypeId} {fz : Nat × Nat} {x : α} (h : W.heap[b]? = some (.cells (madeCells z (n * sz)) E fz)) (hS : S b) (hn : n ≤ cap) (hcap : cap ≤ maxLen) (hz : z.size = sz)
    (hx : R W S z.toList x) : rSlice sz R W S [.slice (some ⟨b, 0, none⟩) n cap] (List.replicate n x) := by
  refine ⟨some ⟨b, 0, none⟩, cap, by simp, by simpa using hn, hcap, by simp, .inr ⟨b, 0, rfl, hS, fun j hj => ⟨z.toList, by simpa using hz, fun c hc => ?_, by simpa using hx⟩⟩⟩
  have := madeCells_get z n j c sz hz (by simpa using hj) hc
  simp [World.cell?, h, this]

end Go.Proofs.Ytdnccjmakeabiaa
