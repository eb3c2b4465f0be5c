/- natural: shift, unshift: walked. -/
import Derived.Test.YtgmedcncbpdimaaDoorNat10M
set_option linter.unusedVariables false
set_option linter.unusedSimpArgs false
/- natural: shift, unshift: walked. -/
namespace Go.Proofs.YtgmedcncbpdimaaDoor
open Go.RowKit

/-- A row of n limbs of the call's own at block g. -/
def OwnL (w : World) (g : Nat) (n : Nat) (o : List Nat) : Prop := o.length = n ∧ (∀ x ∈ o, x < 4294967296) ∧ ∃ f, Own w g 85 n f ∧ ∀ j, f j = .int .u32 ((o.getD j 0 : Nat) : Int)

theorem OwnL.cell {w : World} {g n : Nat} {o : List Nat} (h : OwnL w g n o) {j : Nat} (hj : j < o.length) : w.cell? ⟨g, j, none⟩ = some (.int .u32 (o[j] : Nat)) := by
  obtain ⟨h1, _, f, h2, h3⟩ := h
  rw [h2.cell (by omega), h3 j]
  simp [List.getD, hj]
theorem OwnL.frozen {w : World} {g n : Nat} {o : List Nat} (h : OwnL w g n o) (j : Nat) : w.frozen? ⟨g, j, none⟩ = false := h.2.2.choose_spec.1.frozen j
theorem OwnL.set {w : World} {g n : Nat} {o : List Nat} (h : OwnL w g n o) {p d : Nat} (hp : p < o.length) (hd : d < 4294967296) : OwnL (w.setCell ⟨g, p, none⟩ (.int .u32 d)) g n (o.set p d) := by
  obtain ⟨h1, h2, f, h3, h4⟩ := h
  refine ⟨by simpa using h1, fun x hx => ?_, _, h3.set p _, upd_set hp h4 d⟩
  rcases List.mem_or_eq_of_mem_set hx with h | h
  · exact h2 x h
  · omega
theorem OwnL.below {w w' : World} {B g n : Nat} {o : List Nat} (h : OwnL w g n o) (hb : Below B w w') (hg : g < B) : OwnL w' g n o := ⟨h.1, h.2.1, h.2.2.choose, h.2.2.choose_spec.1.below hb hg, h.2.2.choose_spec.2⟩
theorem OwnL.drew {w : World} {g n : Nat} {o : List Nat} (h : OwnL w g n o) : OwnL w.drew g n o := h
theorem OwnL.lt {w : World} {g n : Nat} {o : List Nat} (h : OwnL w g n o) : g < w.heap.size := h.2.2.choose_spec.1.lt
theorem OwnL.new (w : World) (n : Nat) : OwnL (w.alloc (.cells ((Array.range n).map fun _ => .int .u32 0) 85)) w.heap.size n (List.replicate n 0) := by
  refine ⟨by simp, fun x hx => by have := List.eq_of_mem_replicate hx; omega, _, Own.new _ _ _ _, fun j => ?_⟩
  simp [List.getD, List.getElem?_replicate]; split <;> rfl
theorem OwnL.slice {w : World} {g n : Nat} {o : List Nat} (h : OwnL w g n o) (hn : n ≤ 9223372036854775807) : rSlice 1 rU32 w (LT w.heap.size) [.slice (some ⟨g, 0, none⟩) n n] o :=
  own_limbs h.2.2.choose_spec.1 h.2.2.choose_spec.2 h.1 hn h.2.1

theorem pow2_lt {s : Nat} (hs : s < 32) : 2 ^ s ≤ 2147483648 := by
  have := Nat.pow_le_pow_right (n := 2) (by decide) (show s ≤ 31 by omega)
  exact this

theorem shl_bits {x c s : Nat} (hx : x < 4294967296) (hs : s < 32) (hc : c < 2 ^ s) :
    ∃ lo hi : Nat, bits .or .u32 (c : Int) (IntKind.u64.wrap ((x : Int) * 2 ^ s) % 4294967296) = ((c + lo : Nat) : Int) ∧
    bits .or .u32 (0 : Int) (IntKind.u64.wrap ((x : Int) * 2 ^ s) / 4294967296 % 4294967296) = (hi : Int) ∧ c + lo < 4294967296 ∧ hi < 2 ^ s ∧ 4294967296 * hi + lo = x * 2 ^ s := by
  have hp := pow2_lt hs
  have ht : x * 2 ^ s ≤ 4294967295 * 2147483648 := Nat.mul_le_mul (by omega) hp
  have e1 : (x : Int) * 2 ^ s = ((x * 2 ^ s : Nat) : Int) := by rw [Int.natCast_mul, Int.natCast_pow]; rfl
  have e2 : IntKind.u64.wrap ((x : Int) * 2 ^ s) = ((x * 2 ^ s : Nat) : Int) := by rw [e1]; exact IntWalk.u64_in _ (by omega)
  have hW : 4294967296 = 2 ^ (32 - s) * 2 ^ s := by rw [← Nat.pow_add, show 32 - s + s = 32 by omega]
  have hlo : x * 2 ^ s % 4294967296 = x % 2 ^ (32 - s) * 2 ^ s := by
    conv => lhs; rw [hW]
    exact Nat.mul_mod_mul_right _ _ _
  have hhi : x * 2 ^ s / 4294967296 < 2 ^ s := by
    apply Nat.div_lt_of_lt_mul
    exact Nat.mul_lt_mul_of_pos_right hx (Nat.pow_pos (by decide))
  have hlo2 : x * 2 ^ s % 4294967296 < 4294967296 := Nat.mod_lt _ (by decide)
  have hor : c ||| x * 2 ^ s % 4294967296 = c + x * 2 ^ s % 4294967296 := by rw [hlo, or_add c _ s hc]; omega
  have hsum : c + x * 2 ^ s % 4294967296 < 4294967296 := by
    rw [hlo]
    have h1 : (x % 2 ^ (32 - s) + 1) * 2 ^ s ≤ 2 ^ (32 - s) * 2 ^ s := Nat.mul_le_mul_right _ (Nat.mod_lt _ (Nat.pow_pos (by decide)))
    rw [← hW, Nat.add_mul] at h1
    omega
  generalize hT : x * 2 ^ s = T at *
  refine ⟨T % 4294967296, T / 4294967296, ?_, ?_, hsum, hhi, Nat.div_add_mod _ _⟩
  · rw [e2, show ((T : Int) % 4294967296) = ((T % 4294967296 : Nat) : Int) by omega, u32_or_nat _ _ (by omega) hlo2, hor]
  · rw [e2, show ((T : Int) / 4294967296 % 4294967296) = ((T / 4294967296 : Nat) : Int) by omega, show (0 : Int) = ((0 : Nat) : Int) from rfl, u32_or_nat _ _ (by omega) (by omega)]
    simp

set_option maxRecDepth 100000 in
set_option maxHeartbeats 1000000 in
theorem shift_any (S : Nat → Prop) (u : Value) (xs : List Nat) (s n : Nat) (w : World) (hS : ∀ b, S b → b < w.heap.size) (hn : n ≤ 1000000000000) (hs : s < 32) (hxn : xs.length ≤ n) (hv : limbsVal xs * 2 ^ s < 4294967296 ^ n) (hu : rSlice 1 rU32 w S [u] xs) :
    Calls Tryd.prog 111 #[u, .int .u64 s, .int .i64 n] w fun e w' => ∃ g o, e = .returned (.slice (some ⟨g, 0, none⟩) n n) ∧ w.heap.size ≤ g ∧ OwnL w' g n o ∧ limbsVal o = limbsVal xs * 2 ^ s ∧ Below w.heap.size w w' := by
  have hxlt := hid (u32s_lt hu)
  obtain ⟨xa, xc, rfl, x1, x2, x3, x4⟩ := u32s_open hu
  have hn' := len_le x1 x2
  have hmk := fun (w : World) => make_one (P := Tryd.prog) Tryd.underlying83 Tryd.infoU32 rfl w n (by omega) (by omega)
  have HV := hid hv
  clear hv
  go_enter Tryd.func111, Tryd.ntmps111
  go_wp2
  clear hmk
  go_loopw [8, 9, 10, 15] (fun _ _ _ i wr => ∃ (k : Nat) (o : List Nat), k ≤ xs.length ∧ i = .int .i64 k ∧ Below w.heap.size w wr ∧ OwnL wr w.heap.size n o ∧
      Hid (limbsVal o = limbsVal (xs.take k) * 2 ^ s) ∧ Hid (∀ j, k < j → o.getD j 0 = 0) ∧ Hid (o.getD k 0 < 2 ^ s)) (fun _ _ _ i _ => xs.length - (intOf i).toNat)
  case atStart =>
    refine ⟨0, _, Nat.zero_le _, rfl, (Below.refl _ _).alloc (Nat.le_refl _) _, OwnL.new _ _, ?_, fun j _ => ?_, ?_⟩
    · show limbsVal _ = limbsVal (xs.take 0) * 2 ^ s; rw [limbsVal_zeros]; simp [limbsVal]
    · simp [List.getD, List.getElem?_replicate]; split <;> rfl
    · show (List.replicate n 0).getD 0 0 < 2 ^ s
      have : (List.replicate n 0).getD 0 0 = 0 := by simp [List.getD, List.getElem?_replicate]; split <;> rfl
      rw [this]; exact Nat.pow_pos (by decide)
  case round =>
    obtain ⟨k, o, hk, rfl, hbw, hown, HE, HZ, HC⟩ := hrel
    by_cases hlt : k < xs.length
    · rcases x4 with rfl | ⟨b1, off1, rfl, x4⟩
      · simp at hlt
      obtain ⟨g0, g1⟩ := x4.u32 hlt
      rw [← hbw.cell (p := ⟨b1, off1 + k, none⟩) (hS _ x4.1)] at g0
      have hko : k < o.length := by rw [hown.1]; omega
      have c1 := hown.cell hko
      have c2 := hown.frozen k
      have ek : o.getD k 0 = o[k] := by simp [List.getD, hko]
      have hck := HC.out
      rw [ek] at hck
      obtain ⟨lo, hi, b1', b2', b3', b4', hdm⟩ := shl_bits (x := xs[k]) (c := o[k]) g1 hs hck
      have HT := hid (limbsVal_take_succ xs k hlt)
      have HS := hid (fun d => limbsVal_set o k d hko)
      have HDM := hid hdm
      have B1 := hid b1'
      have B2 := hid b2'
      have B3 := hid b3'
      have B4 := hid b4'
      have CK := hid hck
      clear b1' b2' b3' b4' hck ek hdm
      by_cases hk1 : k + 1 < n
      · have hko1 : k + 1 < o.length := by rw [hown.1]; omega
        have e0 : o[k + 1] = 0 := by have := HZ.out (k + 1) (by omega); simpa [List.getD, hko1] using this
        have c3 := hown.cell hko1
        rw [e0] at c3
        have E0 := hid e0
        clear e0
        have c4 := hown.frozen (k + 1)
        go_wp2
        go_roundw
        case rel =>
          rw [B1.out, B2.out]
          have h2 : x2 = x2 := rfl
          refine ⟨k + 1, (o.set k (o[k] + lo)).set (k + 1) (hi), by omega, by go_num, (hbw.setCell (Nat.le_refl _) _).setCell (Nat.le_refl _) _,
            (hown.set hko B3.out).set (by simpa using hko1) (by have := B4.out; have := pow2_lt hs; omega), ?_, fun j hj => ?_, ?_⟩
          · show limbsVal _ = _
            have h1 := limbsVal_set (o.set k (o[k] + lo)) (k + 1) (hi) (by simpa using hko1)
            have h3 := HS.out (o[k] + lo)
            have h4 : (o.set k (o[k] + lo))[k + 1]'(by simpa using hko1) = 0 := by rw [List.getElem_set_ne (by omega)]; exact E0.out
            rw [h4] at h1
            rw [HT.out, Nat.add_mul, ← HE.out, Nat.mul_assoc, ← HDM.out, Nat.mul_add, ← Nat.mul_assoc, ← Nat.pow_succ, Nat.succ_eq_add_one]
            rw [Nat.mul_add] at h3
            omega
          · have := HZ.out j (by omega)
            simpa [List.getD, List.getElem?_set, show ¬ k = j by omega, show ¬ k + 1 = j by omega] using this
          · show ((o.set k _).set (k + 1) _).getD (k + 1) 0 < 2 ^ s
            simp [List.getD, hko1]
            exact B4.out
        case measure => simp [intOf]; omega
      · have hn1 : n = k + 1 := by omega
        have HN1 := hid hn1
        clear hn1
        go_wp2
        go_roundw
        case rel =>
          rw [B1.out]
          have hfull : xs.take (k + 1) = xs := List.take_of_length_le (by omega)
          have hV := HV.out
          have hsmall : hi = 0 := by
            have hlt' : xs[k] * 2 ^ s < 4294967296 := by
              have h5 := HT.out
              rw [hfull] at h5
              rw [h5, HN1.out, Nat.add_mul, ← HE.out, Nat.mul_assoc, Nat.pow_succ] at hV
              exact Nat.lt_of_mul_lt_mul_left (a := 4294967296 ^ k) (by omega)
            have := HDM.out
            omega
          refine ⟨k + 1, o.set k (o[k] + lo), by omega, by go_num, hbw.setCell (Nat.le_refl _) _, hown.set hko B3.out, ?_, fun j hj => ?_, ?_⟩
          · show limbsVal _ = _
            have h3 := HS.out (o[k] + lo)
            have h6 := HDM.out
            rw [hsmall, Nat.mul_zero, Nat.zero_add] at h6
            rw [HT.out, Nat.add_mul, ← HE.out, Nat.mul_assoc, ← h6]
            rw [Nat.mul_add] at h3
            omega
          · have := HZ.out j (by omega)
            simpa [List.getD, List.getElem?_set, show ¬ k = j by omega] using this
          · show (o.set k _).getD (k + 1) 0 < 2 ^ s
            have h7 : (o.set k (o[k] + lo)).length ≤ k + 1 := by have := hown.1; have := HN1.out; simp; omega
            simp only [List.getD, List.getElem?_eq_none h7, Option.getD_none]
            exact Nat.pow_pos (by decide)
        case measure => simp [intOf]; omega
    · have hs' : limbsVal o = limbsVal xs * 2 ^ s := by have := HE.out; rwa [List.take_of_length_le (by omega)] at this
      have HS' := hid hs'
      clear hs'
      go_wp2
      go_ret
      exact ⟨_, o, rfl, Nat.le_refl _, hown, HS'.out, hbw⟩

end Go.Proofs.YtgmedcncbpdimaaDoor
