/- natural: text, FromUint: walked. -/
import Derived.Test.YtgmedcncbpdimaaDoorNat1M
set_option linter.unusedVariables false
set_option linter.unusedSimpArgs false
section
/- natural: text, FromUint: walked. -/
namespace Go.Proofs.YtgmedcncbpdimaaDoor
open Go.RowKit
theorem Tryd.infoU8 : (Tryd.prog.info? 5).map (fun i => (i.zero, i.size, i.bytes)) = some (some (.int .u8 0), 1, 1) := by kernel_rfl

theorem foldl_push (ns : List Int) : ∀ s : ByteArray, (ns.foldl (fun r n => r.push (UInt8.ofNat n.toNat)) s).data.toList = s.data.toList ++ ns.map fun n => UInt8.ofNat n.toNat := by
  induction ns with
  | nil => intro s; simp
  | cons n ns ih => intro s; rw [List.foldl_cons, ih]; simp [ByteArray.push]

/-- string(b), b an own row of bytes. -/
theorem string_own {P : Program} {src dst e : TypeId} (hs : P.underlying src = some (.slice e)) (he : P.underlying e = some (.int .u8)) (hd : P.underlying dst = some .string)
    {w : World} {g E n : Nat} {f : Nat → Value} (h : Own w g E n f) (B : Nat → Nat) (hf : ∀ j, j < n → f j = .int .u8 (B j)) (cap : Nat) :
    ∃ s : ByteArray, (convert src dst (.slice (some ⟨g, 0, none⟩) n cap)).run P w = .ok (.string s) w ∧ s.data.toList = (List.range n).map fun j => UInt8.ofNat (B j) := by
  have h1 : (loadCells ⟨g, 0, none⟩ n).run P w = .ok (((List.range n).map fun j => (B j : Int)).map (Value.int .u8)).toArray w := by
    have := run_loadCells (P := P) (w := w) ⟨g, 0, none⟩ n (fun j => .int .u8 (B j)) (fun j hj => by
      have hadd : (⟨g, 0, none⟩ : Addr).add j = ⟨g, j, none⟩ := by unfold Addr.add; split <;> simp_all
      rw [hadd, h.cell hj, hf j hj])
    rw [this]
    congr 1
    apply Array.ext'
    simp [List.map_map]
  refine ⟨_, by rw [run_convert_bytes_string w src dst e _ n cap hs he hd, run_bytesToString w ⟨g, 0, none⟩ n cap _ h1], ?_⟩
  rw [foldl_push]
  simp [List.map_map]

theorem bytesVal_range (V : Nat) : ∀ n : Nat, bytesVal ((List.range n).map fun j => UInt8.ofNat (V / 256 ^ (n - 1 - j) % 256)) = V % 256 ^ n := by
  intro n
  induction n generalizing V with
  | zero => simp [bytesVal, Nat.mod_one]
  | succ n ih =>
    rw [List.range_succ, List.map_append, List.map_singleton, bytesVal_snoc]
    have e : (List.range n).map (fun j => UInt8.ofNat (V / 256 ^ (n + 1 - 1 - j) % 256)) = (List.range n).map fun j => UInt8.ofNat (V / 256 / 256 ^ (n - 1 - j) % 256) := by
      apply List.map_congr_left
      intro j hj
      have hj' : j < n := by simpa using hj
      rw [Nat.div_div_eq_div_mul, ← Nat.pow_succ', show (n - 1 - j).succ = n + 1 - 1 - j by omega]
    rw [e, ih]
    have h1 : n + 1 - 1 - n = 0 := by omega
    have h2 : (UInt8.ofNat (V / 256 ^ (n + 1 - 1 - n) % 256)).toNat = V % 256 := by
      rw [h1]
      simp
    rw [h2, Nat.pow_succ', Nat.mod_mul]
    omega

theorem text_byte {xs : List Nat} (h : ∀ x ∈ xs, x < 4294967296) (k q r c : Nat) (hc : c = 256 ^ r) (hr : r < 4) (hkq : k = 4 * q + r) (hq : q < xs.length) : xs[q] / c % 256 = limbsVal xs / 256 ^ k % 256 := by
  subst hkq hc
  rw [← limbsVal_get h hq, pow256, ← Nat.div_div_eq_div_mul]
  generalize limbsVal xs / 4294967296 ^ q = U
  have e : (4294967296 : Nat) = 256 ^ r * 256 ^ (4 - r) := by rw [← Nat.pow_add, show r + (4 - r) = 4 by omega]
  rw [e, Nat.mod_mul_right_div_self, Nat.mod_mod_of_dvd]
  exact ⟨256 ^ (4 - r - 1), by rw [← Nat.pow_succ', show (4 - r - 1).succ = 4 - r by omega]⟩

set_option maxRecDepth 100000 in
set_option maxHeartbeats 1000000 in
theorem text_any (S : Nat → Prop) (v : Value) (xs : List Nat) (w : World) (hS : ∀ b, S b → b < w.heap.size) (hl : xs.length ≤ 1000000000000) (hv : rSlice 1 rU32 w S [v] xs) :
    Calls Tryd.prog 78 #[v] w fun e w' => e = .returned (.string (natStr (limbsVal xs))) ∧ Below w.heap.size w w' := by
  have hxs := hid (u32s_lt hv)
  obtain ⟨a, cap, rfl, h1, h2, h3, h4⟩ := u32s_open hv
  have hn := len_le h1 h2
  obtain ⟨n, hn4⟩ : ∃ n : Nat, n = xs.length * 4 := ⟨_, rfl⟩
  have hm1 : (xs.length : Int) * 4 = (n : Int) := by omega
  have hmk := fun (w : World) => make_one (P := Tryd.prog) Tryd.underlying103 Tryd.infoU8 rfl w n (by omega) (by omega)
  have hnb : n ≤ 9223372036854775807 := by omega
  have HN := hid hn4
  clear hn4
  go_enter Tryd.func78, Tryd.ntmps78
  go_wp2
  clear hmk
  go_loopw [4, 11] (fun _ i wr => ∃ (k : Nat) (f : Nat → Value), k ≤ n ∧ i = .int .i64 k ∧ Below w.heap.size w wr ∧ Own wr w.heap.size 5 n f ∧ Hid (∀ j, j < n → n - k ≤ j → f j = .int .u8 ((limbsVal xs / 256 ^ (n - 1 - j) % 256 : Nat) : Int)) ∧ Hid (∀ j, j < n → ∃ z, f j = .int .u8 z)) (fun _ i _ => n - (intOf i).toNat)
  case atStart => exact ⟨0, _, Nat.zero_le _, rfl, (Below.refl _ _).alloc (Nat.le_refl _) _, Own.new _ _ _ _, fun j _ _ => by omega, fun j _ => ⟨_, rfl⟩⟩
  case round =>
    obtain ⟨k, f, hk, rfl, hbel, hown, HF, HZ⟩ := hrel
    by_cases hlt : k < n
    · obtain ⟨q, hq⟩ : ∃ q : Nat, q = k / 4 := ⟨_, rfl⟩
      have hq1 : ((k : Int) / 4) = (q : Int) := by omega
      have hqm : q < xs.length := by have := HN.out; omega
      rcases h4 with rfl | ⟨b, off, rfl, h4⟩
      · simp at hqm
      obtain ⟨g0, g1⟩ := h4.u32 hqm
      have hbS := hS b h4.1
      rw [← hbel.cell (p := ⟨b, off + q, none⟩) hbS] at g0
      have d1 : (n : Int) - 1 - k = ((n - 1 - k : Nat) : Int) := by omega
      have d2 : n - 1 - k < n := by omega
      obtain ⟨z, hz⟩ := HZ.out (n - 1 - k) d2
      have c1 := hown.cell d2
      rw [hz] at c1
      have c2 := hown.frozen (n - 1 - k)
      have HQ := hid hq
      clear hq hz
      have hr : k % 4 = 0 ∨ k % 4 = 1 ∨ k % 4 = 2 ∨ k % 4 = 3 := by omega
      rcases hr with hr | hr | hr | hr
      · have hr1 : ((k : Int) % 4) = 0 := by omega
        have HP := hid (text_byte hxs.out k q 0 1 (by decide) (by omega) (by have := HQ.out; omega) hqm)
        go_wp2
        go_roundw
        case rel =>
          refine ⟨k + 1, upd f (n - 1 - k) _, by omega, by go_num, hbel.setCell (Nat.le_refl _) _, hown.set _ _, fun j hj hjk => ?_, fun j hj => ?_⟩
          · unfold upd
            by_cases hjq : j = n - 1 - k
            · rw [if_pos hjq, hjq, show n - 1 - (n - 1 - k) = k by omega, ← HP.out]; first | rfl | (congr 1; omega)
            · rw [if_neg hjq]; exact HF.out j hj (by omega)
          · unfold upd
            split
            · exact ⟨_, rfl⟩
            · exact HZ.out j hj
        case measure => simp [intOf]; omega
      · have hr1 : ((k : Int) % 4) = 1 := by omega
        have HP := hid (text_byte hxs.out k q 1 256 (by decide) (by omega) (by have := HQ.out; omega) hqm)
        go_wp2
        go_roundw
        case rel =>
          refine ⟨k + 1, upd f (n - 1 - k) _, by omega, by go_num, hbel.setCell (Nat.le_refl _) _, hown.set _ _, fun j hj hjk => ?_, fun j hj => ?_⟩
          · unfold upd
            by_cases hjq : j = n - 1 - k
            · rw [if_pos hjq, hjq, show n - 1 - (n - 1 - k) = k by omega, ← HP.out]; first | rfl | (congr 1; omega)
            · rw [if_neg hjq]; exact HF.out j hj (by omega)
          · unfold upd
            split
            · exact ⟨_, rfl⟩
            · exact HZ.out j hj
        case measure => simp [intOf]; omega
      · have hr1 : ((k : Int) % 4) = 2 := by omega
        have HP := hid (text_byte hxs.out k q 2 65536 (by decide) (by omega) (by have := HQ.out; omega) hqm)
        go_wp2
        go_roundw
        case rel =>
          refine ⟨k + 1, upd f (n - 1 - k) _, by omega, by go_num, hbel.setCell (Nat.le_refl _) _, hown.set _ _, fun j hj hjk => ?_, fun j hj => ?_⟩
          · unfold upd
            by_cases hjq : j = n - 1 - k
            · rw [if_pos hjq, hjq, show n - 1 - (n - 1 - k) = k by omega, ← HP.out]; first | rfl | (congr 1; omega)
            · rw [if_neg hjq]; exact HF.out j hj (by omega)
          · unfold upd
            split
            · exact ⟨_, rfl⟩
            · exact HZ.out j hj
        case measure => simp [intOf]; omega
      · have hr1 : ((k : Int) % 4) = 3 := by omega
        have HP := hid (text_byte hxs.out k q 3 16777216 (by decide) (by omega) (by have := HQ.out; omega) hqm)
        go_wp2
        go_roundw
        case rel =>
          refine ⟨k + 1, upd f (n - 1 - k) _, by omega, by go_num, hbel.setCell (Nat.le_refl _) _, hown.set _ _, fun j hj hjk => ?_, fun j hj => ?_⟩
          · unfold upd
            by_cases hjq : j = n - 1 - k
            · rw [if_pos hjq, hjq, show n - 1 - (n - 1 - k) = k by omega, ← HP.out]; first | rfl | (congr 1; omega)
            · rw [if_neg hjq]; exact HF.out j hj (by omega)
          · unfold upd
            split
            · exact ⟨_, rfl⟩
            · exact HZ.out j hj
        case measure => simp [intOf]; omega
    · obtain ⟨s, hs1, hs2⟩ := string_own (P := Tryd.prog) Tryd.underlying103 Tryd.underlying5 Tryd.underlying9 hown (fun j => limbsVal xs / 256 ^ (n - 1 - j) % 256) (fun j hj => HF.out j hj (by omega)) n
      have hsz : s.size ≤ maxLen := by
        have := congrArg List.length hs2
        rw [Array.length_toList] at this
        simp at this
        unfold maxLen
        have : s.size = n := this
        omega
      have hval : strVal s = limbsVal xs := by
        unfold strVal
        rw [hs2, bytesVal_range]
        apply Nat.mod_eq_of_lt
        have h5 := limbsVal_lt hxs.out
        rw [HN.out, Nat.mul_comm, Nat.pow_mul]
        exact h5
      have HC := hid (normalize_any s wr hsz)
      rw [hval] at HC
      clear hs2 hval
      go_wp2_with fail
      refine Calls.mono HC.out ?_
      rintro e w1 ⟨rfl, rfl⟩
      go_wp2
      go_ret
      exact ⟨rfl, hbel⟩

end Go.Proofs.YtgmedcncbpdimaaDoor
end
section
/- append of several one-cell elements to an own slice; make([]T, 0, n); string(b) of a slice that is read. -/
namespace Go.Proofs.YtgmedcncbpdimaaDoor
open Go.RowKit

theorem rGrow.append {α : Type} {E : TypeId} {R : CRep α} (hR : Stays R) {base : Nat} {w w' : World} {v v' : Value} {l ys : List α} {news : List Value} (h3 : ∀ xs, w.ownsRow base E 1 v l.length xs → w'.ownsRow base E 1 v' (l.length + ys.length) (xs ++ news))
    (h : rGrow E 1 R base w v l) (hn : news.length = ys.length) (hg : w.grownBy w' v.ownBlock) (hv : v'.ownBlock = v.ownBlock ∨ v'.ownBlock = some w.heap.size) (hx : ∀ j (hj : j < ys.length), R w (Beside w v) [news[j]'(by omega)] ys[j]) : rGrow E 1 R base w' v' (l ++ ys) := by
  obtain ⟨xs, h1, h2⟩ := h
  have h4 := h3 xs h1
  have hst : ∀ cs (a : α), R w (Beside w v) cs a → R w' (Beside w' v') cs a := fun cs a hr => hR _ _ _ _ _ _ hr (fun b hb => hg.block b hb.1 hb.2) fun b hb => by
    refine ⟨Nat.lt_of_lt_of_le hb.1 hg.size, ?_⟩
    rcases hv with hv | hv
    · rw [hv]; exact hb.2
    · rw [hv]; intro e; have := Option.some.inj e; have := hb.1; omega
  refine ⟨xs ++ news, by simpa using h4, fun j hj => ?_⟩
  have hlen := h1.1
  rw [Nat.mul_one] at hlen ⊢
  by_cases hj' : j < l.length
  · rw [List.getElem_append_left hj', List.drop_append_of_le_length (by omega), List.take_append_of_le_length (by simp; omega)]
    have := h2 j hj'
    rw [Nat.mul_one] at this
    exact hst _ _ this
  · have hj2 : j - l.length < ys.length := by simp at hj; omega
    rw [List.getElem_append_right (by omega)]
    have e : ((xs ++ news).drop j).take 1 = [news[j - l.length]'(by omega)] := by
      rw [List.drop_append, hlen, List.drop_of_length_le (by omega), List.nil_append]
      have hq : j - l.length < news.length := by omega
      rw [List.drop_eq_getElem_cons hq]
      rfl
    rw [e]
    exact hst _ _ (hx _ hj2)

/-- 's = append(s, x1, .., xm)', s of the call's own, one-cell elements in a new block. -/
theorem wpList_pushN {α : Type} {P : Program} (w : World) {ops : Array Oper} {rest : List Oper} {o : Oper} {a : Act} {Q : Exit → Act → World → Prop} (hgd : o.guard = none) (s x : Operand) (t : TypeId)
    (ho : o.op = .call { callee := .builtin .append, args := #[s, x], argTypes := #[t, t] })
    {R : CRep α} (hR : Stays R) (base E bytes : Nat) (z : Value) (ht : P.underlying t = some (.slice E)) (hi : (P.info? E).map (fun i => (i.zero, i.size, i.bytes)) = some (some z, 1, bytes)) (hzs : z.cells.size = 1)
    (v : Value) (l ys : List α) (hs : a.eval s = v) (hv : rGrow E 1 R base w v l) (hbase : base ≤ w.heap.size) (hbytes : (l.length + ys.length) * bytes ≤ 140737488355328) (h63 : l.length + ys.length ≤ 9223372036854775807) (hm : 0 < ys.length)
    (b c : Nat) (news : List Value) (hx : a.eval x = .slice (some ⟨b, 0, none⟩) ys.length c) (hl : news.length = ys.length) (hb : ∃ fz, w.heap[b]? = some (.cells news.toArray E fz)) (h1 : news.all Value.oneCell' = true)
    (hy : ∀ j (hj : j < ys.length), R w (Beside w v) [news[j]'(by omega)] ys[j])
    (h : ∀ v' w', rGrow E 1 R base w' v' (l ++ ys) → w.grownBy w' v.ownBlock → Below base w w' → wpList P ops Q rest (a.put o.dst v') w') : wpList P ops Q (o :: rest) a w := by
  refine wpList_plain hgd fun K hK => ?_
  obtain ⟨i, hi1, hi2, hi3, hi4⟩ := info_parts hi
  obtain ⟨xs, hxs, hel⟩ := hv
  obtain ⟨fz, hb⟩ := hb
  have hnews : ∀ j u, news[j]? = some u → w.cell? ((⟨b, 0, none⟩ : Addr).add j) = some u := by
    intro j u hu
    have hadd : (⟨b, 0, none⟩ : Addr).add j = ⟨b, j, none⟩ := by unfold Addr.add; split <;> simp_all
    rw [hadd]; simp [World.cell?, hb, hu]
  obtain ⟨v', w', hr, h2, h3, h4⟩ := append_block (P := P) w base t o.type E i z 1 bytes ht hi1 hi2 hi3 hi4 hzs (by decide) v l.length xs hxs ⟨b, 0, none⟩ ys.length c news (by omega) hnews (fun u hu => List.all_eq_true.1 h1 u hu) (by unfold maxLen; omega) (by omega) hbase (by omega)
  have hrow : ∀ k, v.ownBlock = some k → base ≤ k := fun k hk => (hxs.lt k hk).1
  have hbel : Below base w w' := (Below.refl base w).grown h3 hbase hrow
  refine ?_
  unfold Oper.wp execOp
  simp only [ho, resolve, invoke, builtin, Sem.run_bind, Sem.run_pure, Result.andThen_ok, List.map_toArray, List.map_cons, List.map_nil, hs, hx, hr]
  refine hK _ _ (h v' w' ?_ h3 hbel)
  refine rGrow.append hR (news := news) (fun xs' hxs' => ?_) ⟨xs, hxs, hel⟩ hl h3 h4 hy
  have : xs' = xs := by
    rcases hxs'.2 with ⟨e1, e2⟩ | ⟨g, cap, cur, e1, _, hg, _, _, _, ht'⟩
    · have := hxs.1; have := hxs'.1
      rw [e2] at *
      rw [List.eq_nil_of_length_eq_zero (by omega : xs.length = 0), List.eq_nil_of_length_eq_zero (by omega : xs'.length = 0)]
    · rcases hxs.2 with ⟨f1, _⟩ | ⟨g', cap', cur', f1, _, hg', _, _, _, ht''⟩
      · rw [f1] at e1; cases e1
      · rw [f1] at e1
        injection e1 with e1 _ _
        injection e1 with e1
        injection e1 with e1
        subst e1
        rw [hg] at hg'
        injection hg' with hg'
        injection hg' with hg' _ _
        rw [← ht', ← ht'', hg']
  rw [this]; exact h2

/-- make([]T, 0, n). -/
theorem make_cap {P : Program} {t e : TypeId} {z : Value} {sz bytes : Nat} (ht : P.underlying t = some (.slice e)) (hi : (P.info? e).map (fun i => (i.zero, i.size, i.bytes)) = some (some z, sz, bytes))
    (w : World) (n : Nat) (hb : bytes * n ≤ 281474976710656) (hn : n ≤ 9223372036854775807) :
    (Instr.makeSlice t (.int .i64 0) (.int .i64 n)).run P w = .ok (.slice (some ⟨w.heap.size, 0, none⟩) 0 n) (w.alloc (.cells (madeCells z.cells (n * sz)) e)) := by
  obtain ⟨i, hi1, hi2, hi3, hi4⟩ := info_parts hi
  have h := run_make (P := P) w t e i z ht hi1 hi2 .i64 .i64 0 n (by omega) (by omega) (by rw [hi4]; omega) (by omega)
  rw [h, hi3]
  simp

theorem rGrow.made {α : Type} (E : TypeId) (R : CRep α) (w : World) (z : Array Value) (n : Nat) (hn : n ≤ maxLen) {base : Nat} (hb : base ≤ w.heap.size) :
    rGrow E 1 R base (w.alloc (.cells (madeCells z (n * 1)) E)) (.slice (some ⟨w.heap.size, 0, none⟩) 0 n) ([] : List α) := by
  refine ⟨[], ⟨by simp, .inr ⟨w.heap.size, n, _, rfl, hb, heap_alloc_new _ _, Nat.zero_le _, hn, by simp [madeCells], by simp⟩⟩, fun j hj => by simp at hj⟩

theorem string_slice {P : Program} {src dst e : TypeId} (hs : P.underlying src = some (.slice e)) (he : P.underlying e = some (.int .u8)) (hd : P.underlying dst = some .string)
    {w : World} {S : Nat → Prop} {v : Value} {l : List Nat} (h : rSlice 1 rU8 w S [v] l) (hl : 0 < l.length) :
    ∃ s : ByteArray, (convert src dst v).run P w = .ok (.string s) w ∧ s.data.toList = l.map UInt8.ofNat := by
  obtain ⟨a, cap, hv, h1, h2, h3, h4⟩ := h
  simp only [List.cons.injEq, and_true] at hv
  subst hv
  rcases h4 with h4 | ⟨b, off, rfl, h4⟩
  · rw [h4] at hl; simp at hl
  have h5 : (loadCells ⟨b, off, none⟩ l.length).run P w = .ok (((l.map fun x : Nat => (x : Int)).map (Value.int .u8))).toArray w := by
    have := run_loadCells (P := P) (w := w) ⟨b, off, none⟩ l.length (fun j => .int .u8 (l.getD j 0 : Nat)) (fun j hj => by
      have hadd : (⟨b, off, none⟩ : Addr).add j = ⟨b, off + j, none⟩ := by unfold Addr.add; split <;> simp_all
      rw [hadd, (h4.u8 hj).1]; simp [List.getD, hj])
    rw [this]
    congr 1
    apply Array.ext'
    apply List.ext_getElem
    · simp
    · intro j h1 h2
      have : j < l.length := by simpa using h2
      simp [List.getD, this]
  refine ⟨_, by rw [run_convert_bytes_string w src dst e _ l.length cap hs he hd, run_bytesToString w ⟨b, off, none⟩ l.length cap _ h5], ?_⟩
  rw [foldl_push]
  simp [List.map_map]

end Go.Proofs.YtgmedcncbpdimaaDoor
end
