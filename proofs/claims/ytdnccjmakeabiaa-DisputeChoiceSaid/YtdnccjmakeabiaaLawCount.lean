/- DisputeCount, walked. -/
import Derived.Test.YtdnccjmakeabiaaAwake
import Derived.Test.YtdnccjmakeabiaaGrow
namespace Go.Proofs.Ytdnccjmakeabiaa
open Go.RowKit

theorem Try.infoDisp : (Try.prog.info? 29).map (fun i => (i.zero, i.size, i.bytes)) = some (some (.agg #[.int .i64 0, .int .i64 0, .slice none 0 0]), 3, 40) := by kernel_rfl
def zOptCells : Array Value := #[.bool false, .string ByteArray.empty, .string ByteArray.empty, .int .i64 0]
theorem Try.infoOpt : (Try.prog.info? 84).map (fun i => (i.zero, i.size, i.bytes)) = some (some (.agg zOptCells), 4, 48) := by kernel_rfl
def zOpts (n : Nat) : Obj := .cells (madeCells zOptCells (n * 4)) 84

theorem zOpts_read {W : World} {S : Nat → Prop} {b n : Nat} (h : W.heap[b]? = some (zOpts n)) (hS : S b) (hn : n ≤ 1000000) : rSlice 4 rOpt W S [.slice (some ⟨b, 0, none⟩) n n] (List.replicate n zOpt) :=
  made_reads (z := zOptCells) h hS (Nat.le_refl _) (by unfold maxLen; omega) rfl ⟨rfl, by unfold maxLen zOpt; simp, by unfold maxLen zOpt; simp, by unfold i64ok zOpt; simp⟩

def sized (n : Nat) : GDisp := ⟨0, 0, List.replicate n zOpt⟩

theorem sized_read {w : World} {v : Value} {n : Nat} {o : Obj} (hv : ∀ k, v.ownBlock = some k → k < w.heap.size) (hn : n ≤ 1000000) :
    rDisp ((w.alloc (zOpts n)).alloc o) (Beside ((w.alloc (zOpts n)).alloc o) v) [.int .i64 0, .int .i64 0, .slice (some ⟨w.heap.size, 0, none⟩) n n] (sized n) := by
  refine ⟨_, rfl, by unfold i64ok sized; simp, by unfold i64ok sized; simp, zOpts_read ?_ ⟨by simp; omega, ?_⟩ hn⟩
  · rw [Below.heap_alloc _ _ _ (by simp)]; exact heap_alloc_new w _
  · intro e
    have := hv _ e.symm
    omega

set_option maxRecDepth 100000 in
set_option maxHeartbeats 1000000 in
theorem law_count (v : Value) (l : List Nat) (w : World) (hv : rSlice 1 rU8 w (LT w.heap.size) [v] l) :
    Calls Try.prog 3 #[v] w fun e w' => e = .returned (.bool true) ∧ Below w.heap.size w w' := by
  obtain ⟨a, cap, hv, h1, h2, _, h4⟩ := hv
  simp only [List.cons.injEq, and_true] at hv
  subst hv
  have hn := len_le h1 h2
  by_cases h12 : 12 < l.length
  · go_enter Try.func3, Try.ntmps3
    go_wp2_with fail
    refine (awake_any _).mono ?_
    rintro e w1 ⟨rfl, hb1⟩
    go_wp2
    go_ret
    exact ⟨rfl, hb1⟩
  · have hmk := fun (w : World) (n : Nat) (h : n ≤ 255) => make_many (P := Try.prog) Try.underlying25 Try.infoOpt w n (by omega) (by omega)
    have hmk' : ∀ (w : World) (n : Nat) (h : n ≤ 255), (Instr.makeSlice 25 (.int .i64 n) (.int .i64 n)).run Try.prog w = .ok (.slice (some ⟨w.heap.size, 0, none⟩) n n) (w.alloc (zOpts n)) := hmk
    clear hmk
    go_enter Try.func3, Try.ntmps3
    go_wp2
    go_loopw [3, 4] (fun u i wr => ∃ k : Nat, k ≤ l.length ∧ i = .int .i64 k ∧ Below w.heap.size w wr ∧ rGrow 29 3 rDisp w.heap.size wr u ((l.map sized).take k)) (fun _ i _ => l.length - (intOf i).toNat)
    case atStart => exact ⟨0, Nat.zero_le _, rfl, Below.refl _ _, rGrow.nil _ _ _ _ _⟩
    case round =>
      obtain ⟨k, hk, rfl, hbel, hg⟩ := hrel
      by_cases hlt : k < l.length
      · rcases h4 with rfl | ⟨b, off, rfl, h4⟩
        · simp at hlt
        obtain ⟨g0, g1⟩ := h4.u8 hlt
        rw [← hbel.cell (p := ⟨b, off + k, none⟩) h4.1] at g0
        have hmk := fun w => hmk' w l[k] (by omega)
        obtain ⟨s, hs⟩ : ∃ s, s = l[k] := ⟨_, rfl⟩
        rw [← hs] at g0 g1 hmk
        have Hs : Hid (s = l[k]) := hs
        clear hs hmk'
        have hg2 := (hg.kept stays_rDisp (((Below.refl _ _).alloc (Nat.le_refl _) (zOpts s)).alloc (by simp) (.cells #[.int .i64 0, .int .i64 0, .slice (some ⟨wr.heap.size, 0, none⟩) s s] 29)))
        have hy := sized_read (w := wr) (v := u3) (n := s) (o := .cells #[.int .i64 0, .int .i64 0, .slice (some ⟨wr.heap.size, 0, none⟩) s s] 29) (fun k hk => (hg.lt k hk).2) (by omega)
        go_wp2_with (at_builtin; refine wpList_push _ rfl _ _ 24 rfl stays_rDisp w.heap.size 29 3 40 _ Try.underlying24 Try.infoDisp rfl (by omega) _ ((l.map sized).take k) rfl hg2 ?hbase ?hbytes ?h63 (wr.heap.size + 1) 1 [.int .i64 0, .int .i64 0, .slice (some ⟨wr.heap.size, 0, none⟩) s s] rfl rfl ?hb rfl (sized s) hy ?_)
        case hbase => simp; have := hbel.size; omega
        case hbytes => simp; omega
        case h63 => simp; omega
        case hb => exact ⟨(0, 0), by rw [show wr.heap.size + 1 = (wr.alloc (zOpts s)).heap.size by simp]; exact heap_alloc_new _ _⟩
        intro v' w' hg' hgr hbel'
        have e : (l.map sized).take k ++ [sized s] = (l.map sized).take (k + 1) := by rw [List.take_succ_eq_append_getElem (by simpa using hlt), Hs.out]; simp
        rw [e] at hg'
        have hbel2 : Below w.heap.size w w' := ((hbel.alloc hbel.size _).alloc (by simp; have := hbel.size; omega) _).trans hbel'
        clear e hy hg2 hg hbel' hgr
        go_wp2
        go_roundw
        case rel => exact ⟨k + 1, by omega, by go_num, hbel2, hg'⟩
        case measure => simp [intOf]; omega
      · have hR := hg.slice stays_rDisp
        rw [List.take_of_length_le (by simp; omega)] at hR
        go_wp2_with fail
        refine (awake_any _).mono ?_
        rintro e w1 ⟨rfl, hb1⟩
        have hR1 := (stays_rSlice stays_rDisp).below hR hb1 hb1.size
        clear hR hg
        go_wp2_with fail
        refine (count_any _ _ _ hR1).mono ?_
        rintro e w2 ⟨rfl, hb2⟩
        have hR2 := (stays_rSlice stays_rDisp).below hR1 hb2 hb2.size
        clear hR1
        go_wp2_with fail
        refine (refcount_any _ _ _ hR2).mono ?_
        rintro e w3 ⟨rfl, rfl⟩
        go_wp2
        go_ret
        exact ⟨by simp, hbel.trans ((hb1.mono hbel.size).trans (hb2.mono (Nat.le_trans hbel.size hb1.size)))⟩
end Go.Proofs.Ytdnccjmakeabiaa
