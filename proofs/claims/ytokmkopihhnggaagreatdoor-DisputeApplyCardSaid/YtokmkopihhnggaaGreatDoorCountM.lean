/- dispute.Count and the reference's Count, walked: both return cnt, for every list of disputes. -/
import Derived.Test.YtokmkopihhnggaaGreatDoorProg
import Derived.Test.YtokmkopihhnggaaGreatDoorJfM
import Derived.Outline
set_option linter.unusedVariables false
set_option linter.unusedSimpArgs false
namespace Go.Proofs.YtokmkopihhnggaaGreatDoor
open Go.RowKit
def cap4097 (x : Int) : Int := if 4097 < x then 4097 else x
def cntStep (n : Int) (k : Nat) : Int := cap4097 (n * cap4097 k)
def cnt (l : List GDisp) : Int := l.foldl (fun n d => cntStep n d.opts.length) 1
theorem cap4097_bd {x : Int} (h : 0 ≤ x) : 0 ≤ cap4097 x ∧ cap4097 x ≤ 4097 := by unfold cap4097; split <;> omega
theorem cntStep_bd {n : Int} {k : Nat} (h : 0 ≤ n) : 0 ≤ cntStep n k ∧ cntStep n k ≤ 4097 :=
 cap4097_bd (Int.mul_nonneg h (cap4097_bd (Int.natCast_nonneg k)).1)
theorem cnt_bd_aux (l : List GDisp) : ∀ n : Int, 0 ≤ n → n ≤ 4097 → 0 ≤ l.foldl (fun n d => cntStep n d.opts.length) n ∧ l.foldl (fun n d => cntStep n d.opts.length) n ≤ 4097 := by
 induction l with
 | nil => intro n h1 h2; exact ⟨h1, h2⟩
 | cons d r ih => intro n h1 h2; exact ih _ (cntStep_bd h1).1 (cntStep_bd h1).2
theorem cnt_bd (l : List GDisp) : 0 ≤ cnt l ∧ cnt l ≤ 4097 := cnt_bd_aux l 1 (by omega) (by omega)
theorem cnt_snoc (l : List GDisp) (k : Nat) (h : k < l.length) : cnt (l.take (k + 1)) = cntStep (cnt (l.take k)) l[k].opts.length := by
 unfold cnt; rw [List.take_succ_eq_append_getElem h, List.foldl_append]; rfl
theorem mul4097 {x y : Int} (h0 : 0 ≤ x) (h1 : x ≤ 4097) (h2 : 0 ≤ y) (h3 : y ≤ 4097) : 0 ≤ x * y ∧ x * y ≤ 16785409 := by
 refine ⟨Int.mul_nonneg h0 h2, ?_⟩
 have := Int.mul_le_mul h1 h3 h2 (by omega : (0 : Int) ≤ 4097)
 omega
theorem cnt_val (l : List GDisp) (k : Nat) (h : k < l.length) :
  Value.int .i64 (if 4097 < wrap64 (cnt (l.take k) * if 4097 < (l[k].opts.length : Int) then 4097 else (l[k].opts.length : Int)) then 4097 else wrap64 (cnt (l.take k) * if 4097 < (l[k].opts.length : Int) then 4097 else (l[k].opts.length : Int)))
   = Value.int .i64 (cnt (l.take (k + 1))) := by
 have h1 := cnt_bd (l.take k)
 have h2 := cap4097_bd (Int.natCast_nonneg l[k].opts.length)
 have h3 := mul4097 h1.1 h1.2 h2.1 h2.2
 have e : wrap64 (cnt (l.take k) * cap4097 (l[k].opts.length : Int)) = cnt (l.take k) * cap4097 (l[k].opts.length : Int) := by
  rw [IntWalk.wrap64_in] <;> omega
 show Value.int .i64 (cap4097 (wrap64 (cnt (l.take k) * cap4097 (l[k].opts.length : Int)))) = _
 rw [e, cnt_snoc l k h]; rfl
set_option maxHeartbeats 400000 in
theorem count_any (v : Value) (l : List GDisp) (w : World) (hv : rSlice 3 rDisp w (LT w.heap.size) [v] l) :
  Calls Tryz.prog 57 #[v] w fun e w' => e = .returned (.int .i64 (cnt l)) ∧ Below w.heap.size w w' := by
 obtain ⟨a, cap, hv, h1, h2, _, h4⟩ := hv
 simp only [List.cons.injEq, and_true] at hv
 subst hv
 have hn := len_le h1 h2
 go_enter Tryz.func57, Tryz.ntmps57
 go_wp2
 go_loopw [3, 8] (fun n i wr => ∃ k : Nat, k ≤ l.length ∧ n = .int .i64 (cnt (l.take k)) ∧ i = .int .i64 k ∧ Below w.heap.size w wr) (fun _ i _ => l.length - (intOf i).toNat)
 case atStart => exact ⟨0, Nat.zero_le _, rfl, rfl, Below.refl _ _⟩
 case round =>
  obtain ⟨k, hk, rfl, rfl, hbel⟩ := hrel
  by_cases hlt : k < l.length
  ·rcases h4 with rfl | ⟨b, off, rfl, h4⟩
   ·simp at hlt
   obtain ⟨a', cap', g0, g1, g2, _⟩ := h4.disp hbel hlt
   go_wp2
   go_roundw
   case rel => exact ⟨k + 1, by omega, cnt_val l k hlt, by go_num, hbel.alloc hbel.size _⟩
   case measure => simp [intOf]; omega
  go_wp2
  go_ret
  exact ⟨by rw [List.take_of_length_le (by omega)]; rfl, hbel⟩
theorem cntStep_zero (k : Nat) : cntStep 0 k = 0 := by unfold cntStep cap4097; simp
theorem cnt_zero_aux (l : List GDisp) : l.foldl (fun n d => cntStep n d.opts.length) 0 = 0 := by
 induction l with
 | nil => rfl
 | cons d r ih => rw [List.foldl_cons, cntStep_zero]; exact ih
theorem cnt_empty (l : List GDisp) (k : Nat) (h : k < l.length) (h0 : l[k].opts.length = 0) : cnt l = 0 := by
 have e : l = l.take k ++ l[k] :: l.drop (k + 1) := by rw [← List.drop_eq_getElem_cons h, List.take_append_drop]
 unfold cnt
 rw [e, List.foldl_append, List.foldl_cons, h0]
 have : ∀ n, cntStep n 0 = 0 := fun n => by unfold cntStep cap4097; simp
 rw [this, cnt_zero_aux]
theorem Tryz.infoInt : (Tryz.prog.info? 3).map (fun i => (i.zero, i.size, i.bytes)) = some (some (.int .i64 0), 1, 8) := by kernel_rfl
def choRest (l : List GDisp) (k : Int) : Nat → Int
 | 0 => k
 | i + 1 => choRest l k i / (l[i]?.map fun d => (d.opts.length : Int)).getD 1
def choice (l : List GDisp) (k : Int) : List Int := (List.range l.length).map fun i => choRest l k i % (l[i]?.map fun d => (d.opts.length : Int)).getD 1
theorem choRest_succ (l : List GDisp) (k : Int) (i : Nat) (h : i < l.length) : choRest l k (i + 1) = choRest l k i / (l[i].opts.length : Int) := by
 simp [choRest, h]
theorem choRest_bd (l : List GDisp) (k : Int) (h : 0 ≤ k) (i : Nat) : 0 ≤ choRest l k i ∧ choRest l k i ≤ k := by
 induction i with
 | zero => exact ⟨h, Int.le_refl _⟩
 | succ i ih =>
  unfold choRest
  generalize hm : (l[i]?.map fun d => (d.opts.length : Int)).getD 1 = m
  have hm0 : 0 ≤ m := by
   rw [← hm]
   cases l[i]? with
   | none => simp
   | some d => simp
  refine ⟨Int.ediv_nonneg ih.1 hm0, Int.le_trans (Int.ediv_le_self _ ih.1) ih.2⟩
set_option maxHeartbeats 400000 in
theorem choice_yes (v : Value) (l : List GDisp) (k : Int) (w : World) (h0 : 0 ≤ k) (hc : k < cnt l) (hm : cnt l ≤ 4096) (hs : l.length ≤ 1000000) (hv : rSlice 3 rDisp w (LT w.heap.size) [v] l) :
    Calls Tryz.prog 56 #[v, .int .i64 k] w fun e w' =>
      ∃ u, e = .returned (.tuple #[u, .bool true]) ∧ rSlice 1 rI64 w' (LT w'.heap.size) [u] (choice l k) ∧ Below w.heap.size w w' := by
  have hv' := hv
  obtain ⟨a, cap, hv, h1, h2, _, h4⟩ := hv
  simp only [List.cons.injEq, and_true] at hv
  subst hv
  have hmk := fun (w : World) => make_one (P := Tryz.prog) Tryz.underlying58 Tryz.infoInt rfl w l.length (by omega) (by omega)
  go_enter Tryz.func56, Tryz.ntmps56
  go_wp2_with fail
  refine (count_any _ l _ hv').mono ?_
  rintro e w1 ⟨rfl, hb1⟩
  go_wp2
  go_loopw [1, 8, 9, 28] (fun r _ _ i wr => ∃ (m : Nat) (f : Nat → Value), m ≤ l.length ∧ r = .int .i64 (choRest l k m) ∧ i = .int .i64 m ∧ Below w.heap.size w wr ∧ w1.heap.size < wr.heap.size ∧
     Own wr w1.heap.size 3 l.length f ∧ (∀ j, j < m → f j = .int .i64 (choRest l k j % (l[j]?.map fun d => (d.opts.length : Int)).getD 1)) ∧ (∀ j, m ≤ j → f j = .int .i64 0)) (fun _ _ _ i _ => l.length - (intOf i).toNat)
  case atStart => exact ⟨0, _, Nat.zero_le _, rfl, rfl, hb1.alloc hb1.size _, by simp, Own.new _ _ _ _, fun j hj => by omega, fun j hj => rfl⟩
  case round =>
    obtain ⟨m, f, hm', rfl, rfl, hbel, hsz, hown, hf1, hf2⟩ := hrel
    by_cases hlt : m < l.length
    · rcases h4 with rfl | ⟨b, off, rfl, h4⟩
      · simp at hlt
      obtain ⟨a', cap', g0, g1, g2, _⟩ := h4.disp hbel hlt
      have hpos : 0 < l[m].opts.length := by
        rcases Nat.eq_zero_or_pos l[m].opts.length with h | h
        · have := cnt_empty l m hlt h; omega
        exact h
      have hb := choRest_bd l k h0 m
      have c1 := hown.cell hlt
      rw [hf2 m (Nat.le_refl _)] at c1
      have c2 := hown.frozen m
      go_wp2
      go_roundw
      case rel =>
        refine ⟨m + 1, upd f m (.int .i64 (choRest l k m % (l[m].opts.length : Int))), by omega, by rw [choRest_succ l k m hlt], by go_num, (hbel.setCell (by simpa using hb1.size) _).alloc (by simpa using hbel.size) _, by simp; omega, (hown.set _ _).alloc _, ?_, ?_⟩
        · intro j hj
          unfold upd
          split
          · rename_i e; subst e; simp [hlt]
          exact hf1 j (by omega)
        intro j hj
        unfold upd
        rw [if_neg (by omega)]
        exact hf2 j (by omega)
      case measure => simp [intOf]; omega
    go_wp2
    go_ret2
    refine ⟨_, rfl, hown.reads (by simp [choice]) (by omega) ?_, hbel⟩
    intro j hj
    have hj' : j < l.length := by simpa [choice] using hj
    rw [hf1 j (by omega)]
    refine ⟨by simp [choice], ?_⟩
    have hb := choRest_bd l k h0 j
    have hk1 := (cnt_bd l).2
    have hj1 : (choice l k)[j] = choRest l k j % (l[j].opts.length : Int) := by simp [choice, hj']
    rw [hj1]
    have := Int.emod_nonneg (choRest l k j) (b := (l[j].opts.length : Int))
    rcases Nat.eq_zero_or_pos l[j].opts.length with hz | hz
    · rw [hz]; simp [i64ok]; omega
    have h5 := Int.emod_nonneg (choRest l k j) (b := (l[j].opts.length : Int)) (by omega)
    have h6 := Int.mul_ediv_add_emod (choRest l k j) (l[j].opts.length : Int)
    have h7 := Int.mul_nonneg (Int.natCast_nonneg l[j].opts.length) (Int.ediv_nonneg hb.1 (Int.natCast_nonneg l[j].opts.length))
    unfold i64ok
    generalize choRest l k j % (l[j].opts.length : Int) = x at *
    generalize (l[j].opts.length : Int) * (choRest l k j / (l[j].opts.length : Int)) = y at *
    omega
def zOpt : GOpt := ⟨⟨false, ByteArray.empty, ByteArray.empty⟩, 0⟩
def zO2 : Obj := .cells #[.bool false, .string ByteArray.empty, .string ByteArray.empty, .int .i64 0, .bool false, .string ByteArray.empty, .string ByteArray.empty, .int .i64 0] 121
def zO3 : Obj := .cells #[.bool false, .string ByteArray.empty, .string ByteArray.empty, .int .i64 0, .bool false, .string ByteArray.empty, .string ByteArray.empty, .int .i64 0, .bool false, .string ByteArray.empty, .string ByteArray.empty, .int .i64 0] 121
theorem Tryz.mkOpt2 (w : World) : (Instr.makeSlice 107 (.int .i64 2) (.int .i64 2)).run Tryz.prog w = .ok (.slice (some ⟨w.heap.size, 0, none⟩) 2 2) (w.alloc zO2) := by kernel_rfl
theorem Tryz.mkOpt3 (w : World) : (Instr.makeSlice 107 (.int .i64 3) (.int .i64 3)).run Tryz.prog w = .ok (.slice (some ⟨w.heap.size, 0, none⟩) 3 3) (w.alloc zO3) := by kernel_rfl
theorem zOpts_reads (W : World) (b n : Nat) (arr : Array Value) (E : TypeId) (h : W.heap[b]? = some (.cells arr E)) (hn : n ≤ 1000000)
  (ha : ∀ j, j < n → arr[j * 4]? = some (.bool false) ∧ arr[j * 4 + 1]? = some (.string ByteArray.empty) ∧ arr[j * 4 + 2]? = some (.string ByteArray.empty) ∧ arr[j * 4 + 3]? = some (.int .i64 0)) :
  rSlice 4 rOpt W (LT W.heap.size) [.slice (some ⟨b, 0, none⟩) n n] (List.replicate n zOpt) := by
 refine ⟨some ⟨b, 0, none⟩, n, by simp, by simp, by unfold maxLen; omega, by simp, .inr ⟨b, 0, rfl, (Array.getElem?_eq_some_iff.1 h).1, fun j hj => ⟨[Value.bool false, Value.string ByteArray.empty, Value.string ByteArray.empty, Value.int .i64 0], rfl, ?_, ?_⟩⟩⟩
 ·intro c hc
  obtain ⟨a0, a1, a2, a3⟩ := ha j (by simpa using hj)
  have : c = 0 ∨ c = 1 ∨ c = 2 ∨ c = 3 := by omega
  rcases this with rfl | rfl | rfl | rfl <;> simp [World.cell?, h, a0, a1, a2, a3]
 simp only [List.getElem_replicate]
 exact ⟨rfl, by unfold maxLen zOpt; simp, by unfold maxLen zOpt; simp, by unfold i64ok zOpt; simp⟩
theorem zO2_reads (W : World) (b : Nat) (h : W.heap[b]? = some zO2) : rSlice 4 rOpt W (LT W.heap.size) [.slice (some ⟨b, 0, none⟩) 2 2] (List.replicate 2 zOpt) := by
 refine zOpts_reads W b 2 _ _ h (by omega) fun j hj => ?_
 have : j = 0 ∨ j = 1 := by omega
 rcases this with rfl | rfl <;> exact ⟨rfl, rfl, rfl, rfl⟩
theorem zO3_reads (W : World) (b : Nat) (h : W.heap[b]? = some zO3) : rSlice 4 rOpt W (LT W.heap.size) [.slice (some ⟨b, 0, none⟩) 3 3] (List.replicate 3 zOpt) := by
 refine zOpts_reads W b 3 _ _ h (by omega) fun j hj => ?_
 have : j = 0 ∨ j = 1 ∨ j = 2 := by omega
 rcases this with rfl | rfl | rfl <;> exact ⟨rfl, rfl, rfl, rfl⟩
def awl : List GDisp := [⟨0, 0, List.replicate 2 zOpt⟩, ⟨0, 0, List.replicate 3 zOpt⟩]
theorem awl_cnt : cnt awl = 6 := by rfl
theorem awl_choice : choice awl 3 = [1, 1] := by rfl
theorem aw_reads (W : World) (b1 b2 b3 : Nat) (E : TypeId) (h1 : W.heap[b1]? = some zO2) (h2 : W.heap[b2]? = some zO3)
  (h3 : W.heap[b3]? = some (.cells #[.int .i64 0, .int .i64 0, .slice (some ⟨b1, 0, none⟩) 2 2, .int .i64 0, .int .i64 0, .slice (some ⟨b2, 0, none⟩) 3 3] E)) :
  rSlice 3 rDisp W (LT W.heap.size) [.slice (some ⟨b3, 0, none⟩) 2 2] awl := by
 refine ⟨some ⟨b3, 0, none⟩, 2, rfl, by simp [awl], by unfold maxLen; omega, by simp, .inr ⟨b3, 0, rfl, (Array.getElem?_eq_some_iff.1 h3).1, fun j hj => ?_⟩⟩
 have hj2 : j = 0 ∨ j = 1 := by simp [awl] at hj; omega
 rcases hj2 with rfl | rfl
 ·refine ⟨[.int .i64 0, .int .i64 0, .slice (some ⟨b1, 0, none⟩) 2 2], rfl, ?_, _, rfl, by unfold i64ok; simp [awl], by unfold i64ok; simp [awl], zO2_reads _ _ h1⟩
  intro c hc
  have : c = 0 ∨ c = 1 ∨ c = 2 := by omega
  rcases this with rfl | rfl | rfl <;> simp [World.cell?, h3]
 refine ⟨[.int .i64 0, .int .i64 0, .slice (some ⟨b2, 0, none⟩) 3 3], rfl, ?_, _, rfl, by unfold i64ok; simp [awl], by unfold i64ok; simp [awl], zO3_reads _ _ h2⟩
 intro c hc
 have : c = 0 ∨ c = 1 ∨ c = 2 := by omega
 rcases this with rfl | rfl | rfl <;> simp [World.cell?, h3]
theorem i64s_get {w : World} {u : Value} {l : List Int} (h : rSlice 1 rI64 w (LT w.heap.size) [u] l) (hne : l ≠ []) :
  ∃ b off cap, u = .slice (some ⟨b, off, none⟩) l.length cap ∧ ∀ j (hj : j < l.length), w.cell? ⟨b, off + j, none⟩ = some (.int .i64 l[j]) := by
 obtain ⟨a, cap, h1, h2, h3, h4, h5⟩ := h
 simp only [List.cons.injEq, and_true] at h1
 subst h1
 rcases h5 with h5 | ⟨b, off, rfl, h5⟩
 ·exact absurd h5 hne
 exact ⟨b, off, cap, rfl, fun j hj => (h5.i64 hj).1⟩
theorem chain0 (w : World) (a b c : Obj) : (((w.alloc a).alloc b).alloc c).drew.heap[w.heap.size]? = some a := by
 show (((w.heap.push a).push b).push c)[w.heap.size]? = some a
 rw [Array.getElem?_push, if_neg (by simp; omega), Array.getElem?_push, if_neg (by simp), Array.getElem?_push, if_pos rfl]
theorem chain1 (w : World) (a b c : Obj) : (((w.alloc a).alloc b).alloc c).drew.heap[w.heap.size + 1]? = some b := by
 show (((w.heap.push a).push b).push c)[w.heap.size + 1]? = some b
 rw [Array.getElem?_push, if_neg (by simp), Array.getElem?_push, if_pos (by simp)]
theorem chain2 (w : World) (a b c : Obj) : (((w.alloc a).alloc b).alloc c).drew.heap[w.heap.size + 1 + 1]? = some c := by
 show (((w.heap.push a).push b).push c)[w.heap.size + 1 + 1]? = some c
 rw [Array.getElem?_push, if_pos (by simp)]
theorem chainB (w : World) (a b c : Obj) : Below w.heap.size w (((w.alloc a).alloc b).alloc c).drew :=
 ((((Below.refl _ _).alloc (Nat.le_refl _) _).alloc (by simp) _).alloc (by simp; omega) _).drew
abbrev AwR (W : World) (v : Value) : Prop := rSlice 3 rDisp W (LT W.heap.size) [v] awl
theorem aw1 (w : World) : AwR (((w.alloc zO2).alloc zO3).alloc (.cells #[.int .i64 0, .int .i64 0, .slice (some ⟨w.heap.size, 0, none⟩) 2 2, .int .i64 0, .int .i64 0, .slice (some ⟨w.heap.size + 1, 0, none⟩) 3 3] 109)).drew (.slice (some ⟨w.heap.size + 1 + 1, 0, none⟩) 2 2) :=
 aw_reads _ _ _ _ 109 (chain0 w _ _ _) (chain1 w _ _ _) (chain2 w _ _ _)
theorem aw2 (w : World) : AwR (((w.alloc zO3).alloc zO2).alloc (.cells #[.int .i64 0, .int .i64 0, .slice (some ⟨w.heap.size + 1, 0, none⟩) 2 2, .int .i64 0, .int .i64 0, .slice (some ⟨w.heap.size, 0, none⟩) 3 3] 109)).drew (.slice (some ⟨w.heap.size + 1 + 1, 0, none⟩) 2 2) :=
 aw_reads _ _ _ _ 109 (chain1 w _ _ _) (chain0 w _ _ _) (chain2 w _ _ _)
set_option maxHeartbeats 400000 in
theorem awake_any (w : World) :
  Calls Tryz.prog 18 #[] w fun e w' => e = .returned (.bool true) ∧ Below w.heap.size w w' := by
 have m2 := Tryz.mkOpt2
 have m3 := Tryz.mkOpt3
 go_enter Tryz.func18, Tryz.ntmps18
 go_wp2
 go_region
 all_goals
  go_wp2_with fail
  clear m2 m3
  first
   | (have hR := aw1 w; refine (choice_yes _ awl 3 _ (by omega) (by rw [awl_cnt]; omega) (by rw [awl_cnt]; omega) (by decide) hR).mono ?_)
   | (have hR := aw2 w; refine (choice_yes _ awl 3 _ (by omega) (by rw [awl_cnt]; omega) (by rw [awl_cnt]; omega) (by decide) hR).mono ?_)
  rintro e w1 ⟨u, rfl, hu, hb1⟩
  rw [awl_choice] at hu
  go_wp2_with fail
  refine (count_any _ awl _ ((stays_rSlice stays_rDisp).below hR hb1 hb1.size)).mono ?_
  rintro e w2 ⟨rfl, hb2⟩
  rw [awl_cnt]
  obtain ⟨b, off, cap, rfl, hc⟩ := i64s_get ((stays_rSlice stays_rI64).below hu hb2 hb2.size) (by simp)
  have c0 := hc 0 (by simp)
  have c1 := hc 1 (by simp)
  simp at c0 c1
  clear hc hu hR
  go_wp2
  go_ret
  exact ⟨rfl, (chainB w _ _ _).trans ((hb1.mono (by simp; omega)).trans (hb2.mono (Nat.le_trans (by simp; omega) hb1.size)))⟩
end Go.Proofs.YtokmkopihhnggaaGreatDoor
