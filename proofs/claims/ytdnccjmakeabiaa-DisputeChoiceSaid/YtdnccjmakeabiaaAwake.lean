/- The sanity check of layer 22, walked. -/
import Derived.Test.YtdnccjmakeabiaaChoice
namespace Go.Proofs.Ytdnccjmakeabiaa
open Go.RowKit
def zOpt : GOpt := ⟨⟨false, ByteArray.empty, ByteArray.empty⟩, 0⟩
def zO2 : Obj := .cells #[.bool false, .string ByteArray.empty, .string ByteArray.empty, .int .i64 0, .bool false, .string ByteArray.empty, .string ByteArray.empty, .int .i64 0] 84
def zO3 : Obj := .cells #[.bool false, .string ByteArray.empty, .string ByteArray.empty, .int .i64 0, .bool false, .string ByteArray.empty, .string ByteArray.empty, .int .i64 0, .bool false, .string ByteArray.empty, .string ByteArray.empty, .int .i64 0] 84
theorem Try.mkOpt2 (w : World) : (Instr.makeSlice 25 (.int .i64 2) (.int .i64 2)).run Try.prog w = .ok (.slice (some ⟨w.heap.size, 0, none⟩) 2 2) (w.alloc zO2) := by kernel_rfl
theorem Try.mkOpt3 (w : World) : (Instr.makeSlice 25 (.int .i64 3) (.int .i64 3)).run Try.prog w = .ok (.slice (some ⟨w.heap.size, 0, none⟩) 3 3) (w.alloc zO3) := by kernel_rfl

theorem zOpts_reads (W : World) (b n : Nat) (arr : Array Value) (E : TypeId) (h : W.heap[b]? = some (.cells arr E)) (hn : n ≤ 1000000)
    (ha : ∀ j, j < n → arr[j * 4]? = some (.bool false) ∧ arr[j * 4 + 1]? = some (.string ByteArray.empty) ∧ arr[j * 4 + 2]? = some (.string ByteArray.empty) ∧ arr[j * 4 + 3]? = some (.int .i64 0)) :
    rSlice 4 rOpt W (LT W.heap.size) [.slice (some ⟨b, 0, none⟩) n n] (List.replicate n zOpt) := by
  refine ⟨some ⟨b, 0, none⟩, n, by simp, by simp, by unfold maxLen; omega, by simp, .inr ⟨b, 0, rfl, (Array.getElem?_eq_some_iff.1 h).1, fun j hj => ⟨[Value.bool false, Value.string ByteArray.empty, Value.string ByteArray.empty, Value.int .i64 0], rfl, ?_, ?_⟩⟩⟩
  · intro c hc
    obtain ⟨a0, a1, a2, a3⟩ := ha j (by simpa using hj)
    have : c = 0 ∨ c = 1 ∨ c = 2 ∨ c = 3 := by omega
    rcases this with rfl | rfl | rfl | rfl <;> simp [World.cell?, h, a0, a1, a2, a3]
  · simp only [List.getElem_replicate]
    exact ⟨rfl, by unfold maxLen zOpt; simp, by unfold maxLen zOpt; simp, by unfold i64ok zOpt; simp⟩

theorem zO2_reads (W : World) (b : Nat) (h : W.heap[b]? = some zO2) : rSlice 4 rOpt W (LT W.heap.size) [.slice (some ⟨b, 0, none⟩) 2 2] (List.replicate 2 zOpt) := by
  refine zOpts_reads W b 2 _ _ h (by omega) fun j hj => ?_
  have : j = 0 ∨ j = 1 := by omega
  rcases this with rfl | rfl <;> exact ⟨rfl, rfl, rfl, rfl⟩
theorem zO3_reads (W : World) (b : Nat) (h : W.heap[b]? = some zO3) : rSlice 4 rOpt W (LT W.heap.size) [.slice (some ⟨b, 0, none⟩) 3 3] (List.replicate 3 zOpt) := by
  refine zOpts_reads W b 3 _ _ h (by omega) fun j hj => ?_
  have : j = 0 ∨ j = 1 ∨ j = 2 := by omega
  rcases this with rfl | rfl | rfl <;> exact ⟨rfl, rfl, rfl, rfl⟩

def awl : List GDisp := [⟨0, 0, List.replicate 2 zOpt⟩, ⟨0, 0, List.replicate 3 zOpt⟩]
theorem awl_cnt : cnt awl = 6 := by rfl
theorem awl_choice : choice awl 3 = [1, 1] := by rfl

theorem aw_reads (W : World) (b1 b2 b3 : Nat) (E : TypeId) (h1 : W.heap[b1]? = some zO2) (h2 : W.heap[b2]? = some zO3)
    (h3 : W.heap[b3]? = some (.cells #[.int .i64 0, .int .i64 0, .slice (some ⟨b1, 0, none⟩) 2 2, .int .i64 0, .int .i64 0, .slice (some ⟨b2, 0, none⟩) 3 3] E)) :
    rSlice 3 rDisp W (LT W.heap.size) [.slice (some ⟨b3, 0, none⟩) 2 2] awl := by
  refine ⟨some ⟨b3, 0, none⟩, 2, rfl, by simp [awl], by unfold maxLen; omega, by simp, .inr ⟨b3, 0, rfl, (Array.getElem?_eq_some_iff.1 h3).1, fun j hj => ?_⟩⟩
  have hj2 : j = 0 ∨ j = 1 := by simp [awl] at hj; omega
  rcases hj2 with rfl | rfl
  · refine ⟨[.int .i64 0, .int .i64 0, .slice (some ⟨b1, 0, none⟩) 2 2], rfl, ?_, _, rfl, by unfold i64ok; simp [awl], by unfold i64ok; simp [awl], zO2_reads _ _ h1⟩
    intro c hc
    have : c = 0 ∨ c = 1 ∨ c = 2 := by omega
    rcases this with rfl | rfl | rfl <;> simp [World.cell?, h3]
  · refine ⟨[.int .i64 0, .int .i64 0, .slice (some ⟨b2, 0, none⟩) 3 3], rfl, ?_, _, rfl, by unfold i64ok; simp [awl], by unfold i64ok; simp [awl], zO3_reads _ _ h2⟩
    intro c hc
    have : c = 0 ∨ c = 1 ∨ c = 2 := by omega
    rcases this with rfl | rfl | rfl <;> simp [World.cell?, h3]

theorem i64s_get {w : World} {u : Value} {l : List Int} (h : rSlice 1 rI64 w (LT w.heap.size) [u] l) (hne : l ≠ []) :
    ∃ b off cap, u = .slice (some ⟨b, off, none⟩) l.length cap ∧ ∀ j (hj : j < l.length), w.cell? ⟨b, off + j, none⟩ = some (.int .i64 l[j]) := by
  obtain ⟨a, cap, h1, h2, h3, h4, h5⟩ := h
  simp only [List.cons.injEq, and_true] at h1
  subst h1
  rcases h5 with h5 | ⟨b, off, rfl, h5⟩
  · exact absurd h5 hne
  · exact ⟨b, off, cap, rfl, fun j hj => (h5.i64 hj).1⟩

theorem chain0 (w : World) (a b c : Obj) : (((w.alloc a).alloc b).alloc c).drew.heap[w.heap.size]? = some a := by
  show (((w.heap.push a).push b).push c)[w.heap.size]? = some a
  rw [Array.getElem?_push, if_neg (by simp; omega), Array.getElem?_push, if_neg (by simp), Array.getElem?_push, if_pos rfl]
theorem chain1 (w : World) (a b c : Obj) : (((w.alloc a).alloc b).alloc c).drew.heap[w.heap.size + 1]? = some b := by
  show (((w.heap.push a).push b).push c)[w.heap.size + 1]? = some b
  rw [Array.getElem?_push, if_neg (by simp), Array.getElem?_push, if_pos (by simp)]
theorem chain2 (w : World) (a b c : Obj) : (((w.alloc a).alloc b).alloc c).drew.heap[w.heap.size + 1 + 1]? = some c := by
  show (((w.heap.push a).push b).push c)[w.heap.size + 1 + 1]? = some c
  rw [Array.getElem?_push, if_pos (by simp)]
theorem chainB (w : World) (a b c : Obj) : Below w.heap.size w (((w.alloc a).alloc b).alloc c).drew :=
  ((((Below.refl _ _).alloc (Nat.le_refl _) _).alloc (by simp) _).alloc (by simp; omega) _).drew

abbrev AwR (W : World) (v : Value) : Prop := rSlice 3 rDisp W (LT W.heap.size) [v] awl
theorem aw1 (w : World) : AwR (((w.alloc zO2).alloc zO3).alloc (.cells #[.int .i64 0, .int .i64 0, .slice (some ⟨w.heap.size, 0, none⟩) 2 2, .int .i64 0, .int .i64 0, .slice (some ⟨w.heap.size + 1, 0, none⟩) 3 3] 29)).drew (.slice (some ⟨w.heap.size + 1 + 1, 0, none⟩) 2 2) :=
  aw_reads _ _ _ _ 29 (chain0 w _ _ _) (chain1 w _ _ _) (chain2 w _ _ _)
theorem aw2 (w : World) : AwR (((w.alloc zO3).alloc zO2).alloc (.cells #[.int .i64 0, .int .i64 0, .slice (some ⟨w.heap.size + 1, 0, none⟩) 2 2, .int .i64 0, .int .i64 0, .slice (some ⟨w.heap.size, 0, none⟩) 3 3] 29)).drew (.slice (some ⟨w.heap.size + 1 + 1, 0, none⟩) 2 2) :=
  aw_reads _ _ _ _ 29 (chain1 w _ _ _) (chain0 w _ _ _) (chain2 w _ _ _)

set_option maxHeartbeats 400000 in
theorem awake_any (w : World) :
    Calls Try.prog 6 #[] w fun e w' => e = .returned (.bool true) ∧ Below w.heap.size w w' := by
  have m2 := Try.mkOpt2
  have m3 := Try.mkOpt3
  go_enter Try.func6, Try.ntmps6
  go_wp2
  go_region
  all_goals
    go_wp2_with fail
    clear m2 m3
    first
      | (have hR := aw1 w; refine (choice_yes _ awl 3 _ (by omega) (by rw [awl_cnt]; omega) (by rw [awl_cnt]; omega) (by decide) hR).mono ?_)
      | (have hR := aw2 w; refine (choice_yes _ awl 3 _ (by omega) (by rw [awl_cnt]; omega) (by rw [awl_cnt]; omega) (by decide) hR).mono ?_)
    rintro e w1 ⟨u, rfl, hu, hb1⟩
    rw [awl_choice] at hu
    go_wp2_with fail
    refine (count_any _ awl _ ((stays_rSlice stays_rDisp).below hR hb1 hb1.size)).mono ?_
    rintro e w2 ⟨rfl, hb2⟩
    rw [awl_cnt]
    obtain ⟨b, off, cap, rfl, hc⟩ := i64s_get ((stays_rSlice stays_rI64).below hu hb2 hb2.size) (by simp)
    have c0 := hc 0 (by simp)
    have c1 := hc 1 (by simp)
    simp at c0 c1
    clear hc hu hR
    go_wp2
    go_ret
    exact ⟨rfl, (chainB w _ _ _).trans ((hb1.mono (by simp; omega)).trans (hb2.mono (Nat.le_trans (by simp; omega) hb1.size)))⟩
end Go.Proofs.Ytdnccjmakeabiaa
