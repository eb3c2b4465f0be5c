/- DisputeChoice, walked. -/
import Derived.Test.YtdnccjmakeabiaaIndex4
import Derived.Test.YtdnccjmakeabiaaLawCount
namespace Go.Proofs.Ytdnccjmakeabiaa
open Go.RowKit

noncomputable def choB (l : List GDisp) (k : Int) : Bool := decide (0 ≤ k ∧ k < cnt l ∧ cnt l ≤ 4096)
noncomputable def choV (l : List GDisp) (k : Int) : List Int := if choB l k then choice l k else []
noncomputable def idxB (l : List GDisp) (c : List Int) : Bool := @decide (okc l c ∧ cnt l ≤ 4096) (Classical.propDecidable _)
noncomputable def idxV (l : List GDisp) (c : List Int) : Int := if idxB l c then idxFrom l c else 0

theorem rSlice_nil {α : Type} (sz : Nat) (R : CRep α) (w : World) (S : Nat → Prop) : rSlice sz R w S [.slice none 0 0] ([] : List α) :=
  ⟨none, 0, rfl, by simp, by unfold maxLen; omega, fun _ => rfl, .inl rfl⟩

theorem choice_all (v : Value) (l : List GDisp) (k : Int) (w : World) (hs : l.length ≤ 1000000) (hv : rSlice 3 rDisp w (LT w.heap.size) [v] l) :
    Calls Try.prog 9 #[v, .int .i64 k] w fun e w' =>
      ∃ u, e = .returned (.tuple #[u, .bool (choB l k)]) ∧ rSlice 1 rI64 w' (LT w'.heap.size) [u] (choV l k) ∧ Below w.heap.size w w' := by
  by_cases h : 0 ≤ k ∧ k < cnt l ∧ cnt l ≤ 4096
  · have e : choB l k = true := by simp [choB, h]
    rw [choV, e]
    exact choice_yes v l k w h.1 h.2.1 h.2.2 hs hv
  · have e : choB l k = false := by unfold choB; exact decide_eq_false h
    rw [choV, e]
    exact (choice_no v l k w h hv).mono fun e w' ⟨h1, h2⟩ => ⟨_, h1, rSlice_nil _ _ _ _, h2⟩
theorem refchoice_all (v : Value) (l : List GDisp) (k : Int) (w : World) (hs : l.length ≤ 1000000) (hv : rSlice 3 rDisp w (LT w.heap.size) [v] l) :
    Calls Try.prog 10 #[v, .int .i64 k] w fun e w' =>
      ∃ u, e = .returned (.tuple #[u, .bool (choB l k)]) ∧ rSlice 1 rI64 w' (LT w'.heap.size) [u] (choV l k) ∧ Below w.heap.size w w' := by
  by_cases h : 0 ≤ k ∧ k < cnt l ∧ cnt l ≤ 4096
  · have e : choB l k = true := by simp [choB, h]
    rw [choV, e]
    exact refchoice_yes v l k w h.1 h.2.1 h.2.2 hs hv
  · have e : choB l k = false := by unfold choB; exact decide_eq_false h
    rw [choV, e]
    exact (refchoice_no v l k w h hv).mono fun e w' ⟨h1, h2⟩ => ⟨_, h1, rSlice_nil _ _ _ _, h2⟩
theorem index_all (u v : Value) (l : List GDisp) (c : List Int) (w : World) (hu : rSlice 3 rDisp w (LT w.heap.size) [u] l) (hv : rSlice 1 rI64 w (LT w.heap.size) [v] c) :
    Calls Try.prog 11 #[u, v] w fun e w' => e = .returned (.tuple #[.int .i64 (idxV l c), .bool (idxB l c)]) ∧ Below w.heap.size w w' := by
  by_cases h : okc l c ∧ cnt l ≤ 4096
  · have e : idxB l c = true := by unfold idxB; simp [h]
    rw [idxV, e]
    exact index_yes u v l c w h.1 h.2 hu hv
  · have e : idxB l c = false := by unfold idxB; simp only [decide_eq_false_iff_not]; exact h
    rw [idxV, e]
    exact index_no u v l c w h hu hv
theorem refindex_all (u v : Value) (l : List GDisp) (c : List Int) (w : World) (hu : rSlice 3 rDisp w (LT w.heap.size) [u] l) (hv : rSlice 1 rI64 w (LT w.heap.size) [v] c) :
    Calls Try.prog 12 #[u, v] w fun e w' => e = .returned (.tuple #[.int .i64 (idxV l c), .bool (idxB l c)]) ∧ Below w.heap.size w w' := by
  by_cases h : okc l c ∧ cnt l ≤ 4096
  · have e : idxB l c = true := by unfold idxB; simp [h]
    rw [idxV, e]
    exact refindex_yes u v l c w h.1 h.2 hu hv
  · have e : idxB l c = false := by unfold idxB; simp only [decide_eq_false_iff_not]; exact h
    rw [idxV, e]
    exact refindex_no u v l c w h hu hv

theorem sameB_self (x : List Int) : sameB x x = true := by simp [sameB]

set_option maxRecDepth 100000 in
set_option maxHeartbeats 1000000 in
theorem law_choice (v u : Value) (l : List Nat) (k : Int) (c : List Int) (w : World) (hv : rSlice 1 rU8 w (LT w.heap.size) [v] l) (hu : rSlice 1 rI64 w (LT w.heap.size) [u] c) :
    Calls Try.prog 4 #[v, .int .i64 k, u] w fun e w' => e = .returned (.bool true) ∧ Below w.heap.size w w' := by
  have hu' := hu
  obtain ⟨a', cap', rfl, h1', h2', h4'⟩ := ints_open hu
  obtain ⟨a, cap, hv, h1, h2, _, h4⟩ := hv
  simp only [List.cons.injEq, and_true] at hv
  subst hv
  have hn := len_le h1 h2
  have hn' := len_le h1' h2'
  by_cases h8 : 8 < l.length ∨ 10 < c.length
  · rcases h8 with h8 | h8
    · go_enter Try.func4, Try.ntmps4
      go_wp2_with fail
      refine (awake_any _).mono ?_
      rintro e w1 ⟨rfl, hb1⟩
      go_wp2
      go_ret
      exact ⟨rfl, hb1⟩
    · by_cases h9 : 8 < l.length
      all_goals
        go_enter Try.func4, Try.ntmps4
        go_wp2_with fail
        refine (awake_any _).mono ?_
        rintro e w1 ⟨rfl, hb1⟩
        go_wp2
        go_ret
        exact ⟨rfl, hb1⟩
  · have h8a : ¬ 8 < l.length := by omega
    have h8b : ¬ 10 < c.length := by omega
    clear h8
    have hmk := fun (w : World) (n : Nat) (h : n ≤ 255) => make_many (P := Try.prog) Try.underlying25 Try.infoOpt w n (by omega) (by omega)
    have hmk' : ∀ (w : World) (n : Nat) (h : n ≤ 255), (Instr.makeSlice 25 (.int .i64 n) (.int .i64 n)).run Try.prog w = .ok (.slice (some ⟨w.heap.size, 0, none⟩) n n) (w.alloc (zOpts n)) := hmk
    clear hmk
    go_enter Try.func4, Try.ntmps4
    go_wp2
    go_loopw [7, 8] (fun u i wr => ∃ k : Nat, k ≤ l.length ∧ i = .int .i64 k ∧ Below w.heap.size w wr ∧ rGrow 29 3 rDisp w.heap.size wr u ((l.map fun s => sized (s % 6)).take k)) (fun _ i _ => l.length - (intOf i).toNat)
    case atStart => exact ⟨0, Nat.zero_le _, rfl, Below.refl _ _, rGrow.nil _ _ _ _ _⟩
    case round =>
      obtain ⟨k, hk, rfl, hbel, hg⟩ := hrel
      by_cases hlt : k < l.length
      · rcases h4 with rfl | ⟨b, off, rfl, h4⟩
        · simp at hlt
        obtain ⟨g0, g1⟩ := h4.u8 hlt
        rw [← hbel.cell (p := ⟨b, off + k, none⟩) h4.1] at g0
        have hmk := fun w => hmk' w (l[k] % 6) (by omega)
        obtain ⟨s, hs⟩ : ∃ s, s = l[k] := ⟨_, rfl⟩
        rw [← hs] at g0 g1 hmk
        obtain ⟨t, ht⟩ : ∃ t, t = s % 6 := ⟨_, rfl⟩
        rw [← ht] at hmk
        have ht' : (s : Int) % 6 = t := by omega
        have ht6 : t < 6 := by omega
        have Hs := hid hs
        have Ht := hid ht
        clear hs ht hmk'
        have hg2 := (hg.kept stays_rDisp (((Below.refl _ _).alloc (Nat.le_refl _) (zOpts t)).alloc (by simp) (.cells #[.int .i64 0, .int .i64 0, .slice (some ⟨wr.heap.size, 0, none⟩) t t] 29)))
        have hy := sized_read (w := wr) (v := u7) (n := t) (o := .cells #[.int .i64 0, .int .i64 0, .slice (some ⟨wr.heap.size, 0, none⟩) t t] 29) (fun k hk => (hg.lt k hk).2) (by omega)
        go_wp2_with (at_builtin; refine wpList_push _ rfl _ _ 24 rfl stays_rDisp w.heap.size 29 3 40 _ Try.underlying24 Try.infoDisp rfl (by omega) _ ((l.map fun s => sized (s % 6)).take k) rfl hg2 ?hbase ?hbytes ?h63 (wr.heap.size + 1) 1 [.int .i64 0, .int .i64 0, .slice (some ⟨wr.heap.size, 0, none⟩) t t] rfl rfl ?hb rfl (sized t) hy ?_)
        case hbase => simp; have := hbel.size; omega
        case hbytes => simp; omega
        case h63 => simp; omega
        case hb => exact ⟨(0, 0), by rw [show wr.heap.size + 1 = (wr.alloc (zOpts t)).heap.size by simp]; exact heap_alloc_new _ _⟩
        intro v' w' hg' hgr hbel'
        have e : (l.map fun s => sized (s % 6)).take k ++ [sized t] = (l.map fun s => sized (s % 6)).take (k + 1) := by rw [List.take_succ_eq_append_getElem (by simpa using hlt), Ht.out, Hs.out]; simp
        rw [e] at hg'
        have hbel2 : Below w.heap.size w w' := ((hbel.alloc hbel.size _).alloc (by simp; have := hbel.size; omega) _).trans hbel'
        clear e hy hg2 hg hbel' hgr
        go_wp2
        go_roundw
        case rel => exact ⟨k + 1, by omega, by go_num, hbel2, hg'⟩
        case measure => simp [intOf]; omega
      · have hR := hg.slice stays_rDisp
        rw [List.take_of_length_le (by simp; omega)] at hR
        have hlen : (l.map fun s => sized (s % 6)).length ≤ 1000000 := by simp; omega
        have hU := (stays_rSlice stays_rI64).below hu' hbel hbel.size
        revert hR hlen
        generalize (l.map fun s => sized (s % 6)) = L
        intro hR hlen
        have Hlen := hid hlen
        clear hg hlen
        go_wp2_with fail
        refine (choice_all _ _ _ _ Hlen.out hR).mono ?_
        rintro e w1 ⟨p1, rfl, q1, hb1⟩
        replace hR := (stays_rSlice stays_rDisp).below hR hb1 hb1.size
        replace hU := (stays_rSlice stays_rI64).below hU hb1 hb1.size
        go_wp2_with fail
        refine (refchoice_all _ _ _ _ Hlen.out hR).mono ?_
        rintro e w2 ⟨p2, rfl, q2, hb2⟩
        replace hR := (stays_rSlice stays_rDisp).below hR hb2 hb2.size
        replace hU := (stays_rSlice stays_rI64).below hU hb2 hb2.size
        replace q1 := (stays_rSlice stays_rI64).below q1 hb2 hb2.size
        go_wp2_with fail
        refine (index_all _ _ _ _ _ hR hU).mono ?_
        rintro e w3 ⟨rfl, hb3⟩
        replace hR := (stays_rSlice stays_rDisp).below hR hb3 hb3.size
        replace hU := (stays_rSlice stays_rI64).below hU hb3 hb3.size
        replace q1 := (stays_rSlice stays_rI64).below q1 hb3 hb3.size
        replace q2 := (stays_rSlice stays_rI64).below q2 hb3 hb3.size
        go_wp2_with fail
        refine (refindex_all _ _ _ _ _ hR hU).mono ?_
        rintro e w4 ⟨rfl, hb4⟩
        replace q1 := (stays_rSlice stays_rI64).below q1 hb4 hb4.size
        replace q2 := (stays_rSlice stays_rI64).below q2 hb4 hb4.size
        go_wp2_with fail
        refine (awake_any _).mono ?_
        rintro e w5 ⟨rfl, hb5⟩
        replace q1 := (stays_rSlice stays_rI64).below q1 hb5 hb5.size
        replace q2 := (stays_rSlice stays_rI64).below q2 hb5 hb5.size
        go_wp2_with fail
        refine (sameInts_any _ _ _ _ _ q1 q2).mono ?_
        rintro e w6 ⟨rfl, hb6⟩
        rw [sameB_self]
        have hB : Below w.heap.size w w6 := hbel.trans <| (hb1.mono hbel.size).trans <| (hb2.mono (Nat.le_trans hbel.size hb1.size)).trans <| (hb3.mono (Nat.le_trans (Nat.le_trans hbel.size hb1.size) hb2.size)).trans <|
          (hb4.mono (Nat.le_trans (Nat.le_trans (Nat.le_trans hbel.size hb1.size) hb2.size) hb3.size)).trans <| (hb5.mono (Nat.le_trans (Nat.le_trans (Nat.le_trans (Nat.le_trans hbel.size hb1.size) hb2.size) hb3.size) hb4.size)).trans <|
          (hb6.mono (Nat.le_trans (Nat.le_trans (Nat.le_trans (Nat.le_trans (Nat.le_trans hbel.size hb1.size) hb2.size) hb3.size) hb4.size) hb5.size))
        clear q1 q2 hR hU
        go_wp2
        go_ret
        exact ⟨by simp, hB⟩
end Go.Proofs.Ytdnccjmakeabiaa
