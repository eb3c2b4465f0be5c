/- dispute.Count and the reference's Count, walked: both return cnt, for every list of disputes. -/
import Derived.Test.YtdnccjmakeabiaaProg
import Derived.Test.YtdnccjmakeabiaaBase
import Derived.Outline
namespace Go.Proofs.Ytdnccjmakeabiaa
open Go.RowKit

def cap4097 (x : Int) : Int := if 4097 < x then 4097 else x
def cntStep (n : Int) (k : Nat) : Int := cap4097 (n * cap4097 k)
def cnt (l : List GDisp) : Int := l.foldl (fun n d => cntStep n d.opts.length) 1

theorem cap4097_bd {x : Int} (h : 0 ≤ x) : 0 ≤ cap4097 x ∧ cap4097 x ≤ 4097 := by unfold cap4097; split <;> omega
theorem cntStep_bd {n : Int} {k : Nat} (h : 0 ≤ n) : 0 ≤ cntStep n k ∧ cntStep n k ≤ 4097 :=
  cap4097_bd (Int.mul_nonneg h (cap4097_bd (Int.natCast_nonneg k)).1)
theorem cnt_bd_aux (l : List GDisp) : ∀ n : Int, 0 ≤ n → n ≤ 4097 → 0 ≤ l.foldl (fun n d => cntStep n d.opts.length) n ∧ l.foldl (fun n d => cntStep n d.opts.length) n ≤ 4097 := by
  induction l with
  | nil => intro n h1 h2; exact ⟨h1, h2⟩
  | cons d r ih => intro n h1 h2; exact ih _ (cntStep_bd h1).1 (cntStep_bd h1).2
theorem cnt_bd (l : List GDisp) : 0 ≤ cnt l ∧ cnt l ≤ 4097 := cnt_bd_aux l 1 (by omega) (by omega)
theorem cnt_snoc (l : List GDisp) (k : Nat) (h : k < l.length) : cnt (l.take (k + 1)) = cntStep (cnt (l.take k)) l[k].opts.length := by
  unfold cnt; rw [List.take_succ_eq_append_getElem h, List.foldl_append]; rfl
theorem mul4097 {x y : Int} (h0 : 0 ≤ x) (h1 : x ≤ 4097) (h2 : 0 ≤ y) (h3 : y ≤ 4097) : 0 ≤ x * y ∧ x * y ≤ 16785409 := by
  refine ⟨Int.mul_nonneg h0 h2, ?_⟩
  have := Int.mul_le_mul h1 h3 h2 (by omega : (0 : Int) ≤ 4097)
  omega
theorem cnt_val (l : List GDisp) (k : Nat) (h : k < l.length) :
    Value.int .i64 (if 4097 < wrap64 (cnt (l.take k) * if 4097 < (l[k].opts.length : Int) then 4097 else (l[k].opts.length : Int)) then 4097 else wrap64 (cnt (l.take k) * if 4097 < (l[k].opts.length : Int) then 4097 else (l[k].opts.length : Int)))
      = Value.int .i64 (cnt (l.take (k + 1))) := by
  have h1 := cnt_bd (l.take k)
  have h2 := cap4097_bd (Int.natCast_nonneg l[k].opts.length)
  have h3 := mul4097 h1.1 h1.2 h2.1 h2.2
  have e : wrap64 (cnt (l.take k) * cap4097 (l[k].opts.length : Int)) = cnt (l.take k) * cap4097 (l[k].opts.length : Int) := by
    rw [IntWalk.wrap64_in] <;> omega
  show Value.int .i64 (cap4097 (wrap64 (cnt (l.take k) * cap4097 (l[k].opts.length : Int)))) = _
  rw [e, cnt_snoc l k h]; rfl

set_option maxHeartbeats 400000 in
theorem count_any (v : Value) (l : List GDisp) (w : World) (hv : rSlice 3 rDisp w (LT w.heap.size) [v] l) :
    Calls Try.prog 7 #[v] w fun e w' => e = .returned (.int .i64 (cnt l)) ∧ Below w.heap.size w w' := by
  obtain ⟨a, cap, hv, h1, h2, _, h4⟩ := hv
  simp only [List.cons.injEq, and_true] at hv
  subst hv
  have hn := len_le h1 h2
  go_enter Try.func7, Try.ntmps7
  go_wp2
  go_loopw [3, 8] (fun n i wr => ∃ k : Nat, k ≤ l.length ∧ n = .int .i64 (cnt (l.take k)) ∧ i = .int .i64 k ∧ Below w.heap.size w wr) (fun _ i _ => l.length - (intOf i).toNat)
  case atStart => exact ⟨0, Nat.zero_le _, rfl, rfl, Below.refl _ _⟩
  case round =>
    obtain ⟨k, hk, rfl, rfl, hbel⟩ := hrel
    by_cases hlt : k < l.length
    · rcases h4 with rfl | ⟨b, off, rfl, h4⟩
      · simp at hlt
      obtain ⟨a', cap', g0, g1, g2, _⟩ := h4.disp hbel hlt
      go_wp2
      go_roundw
      case rel => exact ⟨k + 1, by omega, cnt_val l k hlt, by go_num, hbel.alloc hbel.size _⟩
      case measure => simp [intOf]; omega
    · go_wp2
      go_ret
      exact ⟨by rw [List.take_of_length_le (by omega)]; rfl, hbel⟩
end Go.Proofs.Ytdnccjmakeabiaa
