/- insolvencyref1: text: walked. -/
import Derived.Test.YtokmkopihhnggaaDoorNumM
import Derived.Test.YtokmkopihhnggaaDoorNat8M
import Derived.Shelf.Small.Bits
import Derived.Shelf.Small.Strs
import Derived.Test.YtokmkopihhnggaaDoorProg
import Derived.Deep.CutBlock
import Derived.Deep.DeepCutAuto
set_option linter.unusedVariables false
set_option linter.unusedSimpArgs false
set_option linter.defProp false
set_option linter.unnecessarySimpa false
set_option linter.unusedSectionVars false
section
/- insolvencyref1: text: walked. -/
namespace Go.Proofs.YtokmkopihhnggaaDoor
open Go.RowKit
end Go.Proofs.YtokmkopihhnggaaDoor
end
section
/- natural: shift, unshift: walked. -/
namespace Go.Proofs.YtokmkopihhnggaaDoor
open Go.RowKit
def OwnL (w : World) (g : Nat) (n : Nat) (o : List Nat) : Prop := o.length = n ∧ (∀ x ∈ o, x < 4294967296) ∧ ∃ f, Own w g 87 n f ∧ ∀ j, f j = .int .u32 ((o.getD j 0 : Nat) : Int)
theorem OwnL.cell {w : World} {g n : Nat} {o : List Nat} (h : OwnL w g n o) {j : Nat} (hj : j < o.length) : w.cell? ⟨g, j, none⟩ = some (.int .u32 (o[j] : Nat)) := by
  obtain ⟨h1, _, f, h2, h3⟩ := h
  rw [h2.cell (by omega), h3 j]
  simp [List.getD, hj]
theorem OwnL.frozen {w : World} {g n : Nat} {o : List Nat} (h : OwnL w g n o) (j : Nat) : w.frozen? ⟨g, j, none⟩ = false := h.2.2.choose_spec.1.frozen j
theorem OwnL.set {w : World} {g n : Nat} {o : List Nat} (h : OwnL w g n o) {p d : Nat} (hp : p < o.length) (hd : d < 4294967296) : OwnL (w.setCell ⟨g, p, none⟩ (.int .u32 d)) g n (o.set p d) := by
  obtain ⟨h1, h2, f, h3, h4⟩ := h
  refine ⟨by simpa using h1, fun x hx => ?_, _, h3.set p _, upd_set hp h4 d⟩
  rcases List.mem_or_eq_of_mem_set hx with h | h
  · exact h2 x h
  omega
theorem OwnL.below {w w' : World} {B g n : Nat} {o : List Nat} (h : OwnL w g n o) (hb : Below B w w') (hg : g < B) : OwnL w' g n o := ⟨h.1, h.2.1, h.2.2.choose, h.2.2.choose_spec.1.below hb hg, h.2.2.choose_spec.2⟩
theorem OwnL.drew {w : World} {g n : Nat} {o : List Nat} (h : OwnL w g n o) : OwnL w.drew g n o := h
theorem OwnL.lt {w : World} {g n : Nat} {o : List Nat} (h : OwnL w g n o) : g < w.heap.size := h.2.2.choose_spec.1.lt
theorem OwnL.new (w : World) (n : Nat) : OwnL (w.alloc (.cells ((Array.range n).map fun _ => .int .u32 0) 87)) w.heap.size n (List.replicate n 0) := by
  refine ⟨by simp, fun x hx => by have := List.eq_of_mem_replicate hx; omega, _, Own.new _ _ _ _, fun j => ?_⟩
  simp [List.getD, List.getElem?_replicate]; split <;> rfl
theorem OwnL.slice {w : World} {g n : Nat} {o : List Nat} (h : OwnL w g n o) (hn : n ≤ 9223372036854775807) : rSlice 1 rU32 w (LT w.heap.size) [.slice (some ⟨g, 0, none⟩) n n] o :=
  own_limbs h.2.2.choose_spec.1 h.2.2.choose_spec.2 h.1 hn h.2.1
theorem pow2_lt {s : Nat} (hs : s < 32) : 2 ^ s ≤ 2147483648 := by
  have := Nat.pow_le_pow_right (n := 2) (by decide) (show s ≤ 31 by omega)
  exact this
theorem shl_bits {x c s : Nat} (hx : x < 4294967296) (hs : s < 32) (hc : c < 2 ^ s) :
    ∃ lo hi : Nat, bits .or .u32 (c : Int) (IntKind.u64.wrap ((x : Int) * 2 ^ s) % 4294967296) = ((c + lo : Nat) : Int) ∧
    bits .or .u32 (0 : Int) (IntKind.u64.wrap ((x : Int) * 2 ^ s) / 4294967296 % 4294967296) = (hi : Int) ∧ c + lo < 4294967296 ∧ hi < 2 ^ s ∧ 4294967296 * hi + lo = x * 2 ^ s := by
  have hp := pow2_lt hs
  have ht : x * 2 ^ s ≤ 4294967295 * 2147483648 := Nat.mul_le_mul (by omega) hp
  have e1 : (x : Int) * 2 ^ s = ((x * 2 ^ s : Nat) : Int) := by rw [Int.natCast_mul, Int.natCast_pow]; rfl
  have e2 : IntKind.u64.wrap ((x : Int) * 2 ^ s) = ((x * 2 ^ s : Nat) : Int) := by rw [e1]; exact IntWalk.u64_in _ (by omega)
  have hW : 4294967296 = 2 ^ (32 - s) * 2 ^ s := by rw [← Nat.pow_add, show 32 - s + s = 32 by omega]
  have hlo : x * 2 ^ s % 4294967296 = x % 2 ^ (32 - s) * 2 ^ s := by
    conv => lhs; rw [hW]
    exact Nat.mul_mod_mul_right _ _ _
  have hhi : x * 2 ^ s / 4294967296 < 2 ^ s := by
    apply Nat.div_lt_of_lt_mul
    exact Nat.mul_lt_mul_of_pos_right hx (Nat.pow_pos (by decide))
  have hlo2 : x * 2 ^ s % 4294967296 < 4294967296 := Nat.mod_lt _ (by decide)
  have hor : c ||| x * 2 ^ s % 4294967296 = c + x * 2 ^ s % 4294967296 := by rw [hlo, or_add c _ s hc]; omega
  have hsum : c + x * 2 ^ s % 4294967296 < 4294967296 := by
    rw [hlo]
    have h1 : (x % 2 ^ (32 - s) + 1) * 2 ^ s ≤ 2 ^ (32 - s) * 2 ^ s := Nat.mul_le_mul_right _ (Nat.mod_lt _ (Nat.pow_pos (by decide)))
    rw [← hW, Nat.add_mul] at h1
    omega
  generalize hT : x * 2 ^ s = T at *
  refine ⟨T % 4294967296, T / 4294967296, ?_, ?_, hsum, hhi, Nat.div_add_mod _ _⟩
  · rw [e2, show ((T : Int) % 4294967296) = ((T % 4294967296 : Nat) : Int) by omega, u32_or_nat _ _ (by omega) hlo2, hor]
  rw [e2, show ((T : Int) / 4294967296 % 4294967296) = ((T / 4294967296 : Nat) : Int) by omega, show (0 : Int) = ((0 : Nat) : Int) from rfl, u32_or_nat _ _ (by omega) (by omega)]
  simp
set_option maxRecDepth 100000 in
set_option maxHeartbeats 1000000 in
theorem shift_any (S : Nat → Prop) (u : Value) (xs : List Nat) (s n : Nat) (w : World) (hS : ∀ b, S b → b < w.heap.size) (hn : n ≤ 1000000000000) (hs : s < 32) (hxn : xs.length ≤ n) (hv : limbsVal xs * 2 ^ s < 4294967296 ^ n) (hu : rSlice 1 rU32 w S [u] xs) :
    Calls Tryd.prog 58 #[u, .int .u64 s, .int .i64 n] w fun e w' => ∃ g o, e = .returned (.slice (some ⟨g, 0, none⟩) n n) ∧ w.heap.size ≤ g ∧ OwnL w' g n o ∧ limbsVal o = limbsVal xs * 2 ^ s ∧ Below w.heap.size w w' := by
  have hxlt := hid (u32s_lt hu)
  obtain ⟨xa, xc, rfl, x1, x2, x3, x4⟩ := u32s_open hu
  have hn' := len_le x1 x2
  have hmk := fun (w : World) => make_one (P := Tryd.prog) Tryd.underlying82 Tryd.infoU32 rfl w n (by omega) (by omega)
  have HV := hid hv
  clear hv
  go_enter Tryd.func58, Tryd.ntmps58
  go_wp2
  clear hmk
  go_loopw [8, 9, 10, 15] (fun _ _ _ i wr => ∃ (k : Nat) (o : List Nat), k ≤ xs.length ∧ i = .int .i64 k ∧ Below w.heap.size w wr ∧ OwnL wr w.heap.size n o ∧
      Hid (limbsVal o = limbsVal (xs.take k) * 2 ^ s) ∧ Hid (∀ j, k < j → o.getD j 0 = 0) ∧ Hid (o.getD k 0 < 2 ^ s)) (fun _ _ _ i _ => xs.length - (intOf i).toNat)
  case atStart =>
    refine ⟨0, _, Nat.zero_le _, rfl, (Below.refl _ _).alloc (Nat.le_refl _) _, OwnL.new _ _, ?_, fun j _ => ?_, ?_⟩
    · show limbsVal _ = limbsVal (xs.take 0) * 2 ^ s; rw [limbsVal_zeros]; simp [limbsVal]
    · simp [List.getD, List.getElem?_replicate]; split <;> rfl
    show (List.replicate n 0).getD 0 0 < 2 ^ s
    have : (List.replicate n 0).getD 0 0 = 0 := by simp [List.getD, List.getElem?_replicate]; split <;> rfl
    rw [this]; exact Nat.pow_pos (by decide)
  case round =>
    obtain ⟨k, o, hk, rfl, hbw, hown, HE, HZ, HC⟩ := hrel
    by_cases hlt : k < xs.length
    · rcases x4 with rfl | ⟨b1, off1, rfl, x4⟩
      · simp at hlt
      obtain ⟨g0, g1⟩ := x4.u32 hlt
      rw [← hbw.cell (p := ⟨b1, off1 + k, none⟩) (hS _ x4.1)] at g0
      have hko : k < o.length := by rw [hown.1]; omega
      have c1 := hown.cell hko
      have c2 := hown.frozen k
      have ek : o.getD k 0 = o[k] := by simp [List.getD, hko]
      have hck := HC.out
      rw [ek] at hck
      obtain ⟨lo, hi, b1', b2', b3', b4', hdm⟩ := shl_bits (x := xs[k]) (c := o[k]) g1 hs hck
      have HT := hid (limbsVal_take_succ xs k hlt)
      have HS := hid (fun d => limbsVal_set o k d hko)
      have HDM := hid hdm
      have B1 := hid b1'
      have B2 := hid b2'
      have B3 := hid b3'
      have B4 := hid b4'
      have CK := hid hck
      clear b1' b2' b3' b4' hck ek hdm
      by_cases hk1 : k + 1 < n
      · have hko1 : k + 1 < o.length := by rw [hown.1]; omega
        have e0 : o[k + 1] = 0 := by have := HZ.out (k + 1) (by omega); simpa [List.getD, hko1] using this
        have c3 := hown.cell hko1
        rw [e0] at c3
        have E0 := hid e0
        clear e0
        have c4 := hown.frozen (k + 1)
        go_wp2
        go_roundw
        case rel =>
          rw [B1.out, B2.out]
          have h2 : x2 = x2 := rfl
          refine ⟨k + 1, (o.set k (o[k] + lo)).set (k + 1) (hi), by omega, by go_num, (hbw.setCell (Nat.le_refl _) _).setCell (Nat.le_refl _) _,
            (hown.set hko B3.out).set (by simpa using hko1) (by have := B4.out; have := pow2_lt hs; omega), ?_, fun j hj => ?_, ?_⟩
          · show limbsVal _ = _
            have h1 := limbsVal_set (o.set k (o[k] + lo)) (k + 1) (hi) (by simpa using hko1)
            have h3 := HS.out (o[k] + lo)
            have h4 : (o.set k (o[k] + lo))[k + 1]'(by simpa using hko1) = 0 := by rw [List.getElem_set_ne (by omega)]; exact E0.out
            rw [h4] at h1
            rw [HT.out, Nat.add_mul, ← HE.out, Nat.mul_assoc, ← HDM.out, Nat.mul_add, ← Nat.mul_assoc, ← Nat.pow_succ, Nat.succ_eq_add_one]
            rw [Nat.mul_add] at h3
            omega
          · have := HZ.out j (by omega)
            simpa [List.getD, List.getElem?_set, show ¬ k = j by omega, show ¬ k + 1 = j by omega] using this
          show ((o.set k _).set (k + 1) _).getD (k + 1) 0 < 2 ^ s
          simp [List.getD, hko1]
          exact B4.out
        case measure => simp [intOf]; omega
      have hn1 : n = k + 1 := by omega
      have HN1 := hid hn1
      clear hn1
      go_wp2
      go_roundw
      case rel =>
        rw [B1.out]
        have hfull : xs.take (k + 1) = xs := List.take_of_length_le (by omega)
        have hV := HV.out
        have hsmall : hi = 0 := by
          have hlt' : xs[k] * 2 ^ s < 4294967296 := by
            have h5 := HT.out
            rw [hfull] at h5
            rw [h5, HN1.out, Nat.add_mul, ← HE.out, Nat.mul_assoc, Nat.pow_succ] at hV
            exact Nat.lt_of_mul_lt_mul_left (a := 4294967296 ^ k) (by omega)
          have := HDM.out
          omega
        refine ⟨k + 1, o.set k (o[k] + lo), by omega, by go_num, hbw.setCell (Nat.le_refl _) _, hown.set hko B3.out, ?_, fun j hj => ?_, ?_⟩
        · show limbsVal _ = _
          have h3 := HS.out (o[k] + lo)
          have h6 := HDM.out
          rw [hsmall, Nat.mul_zero, Nat.zero_add] at h6
          rw [HT.out, Nat.add_mul, ← HE.out, Nat.mul_assoc, ← h6]
          rw [Nat.mul_add] at h3
          omega
        · have := HZ.out j (by omega)
          simpa [List.getD, List.getElem?_set, show ¬ k = j by omega] using this
        show (o.set k _).getD (k + 1) 0 < 2 ^ s
        have h7 : (o.set k (o[k] + lo)).length ≤ k + 1 := by have := hown.1; have := HN1.out; simp; omega
        simp only [List.getD, List.getElem?_eq_none h7, Option.getD_none]
        exact Nat.pow_pos (by decide)
      case measure => simp [intOf]; omega
    have hs' : limbsVal o = limbsVal xs * 2 ^ s := by have := HE.out; rwa [List.take_of_length_le (by omega)] at this
    have HS' := hid hs'
    clear hs'
    go_wp2
    go_ret
    exact ⟨_, o, rfl, Nat.le_refl _, hown, HS'.out, hbw⟩
end Go.Proofs.YtokmkopihhnggaaDoor
end
section
/- insolvencyref1: shifted: walked. -/
namespace Go.Proofs.YtokmkopihhnggaaDoor
open Go.RowKit
end Go.Proofs.YtokmkopihhnggaaDoor
end
section
/- natural: unshift: walked. -/
namespace Go.Proofs.YtokmkopihhnggaaDoor
open Go.RowKit
theorem or32_add' (x r : Nat) (hx : x < 4294967296) (hr : r < 4294967296) : bits .or .u64 (x : Int) ((r : Int) * 4294967296) = ((r * 4294967296 + x : Nat) : Int) := by
  have e : (r : Int) * 4294967296 = ((r * 2 ^ 32 : Nat) : Int) := by rw [Int.natCast_mul]; rfl
  rw [e, u64_or_nat _ _ (by omega) (by omega), or_add x r 32 (by omega)]
theorem unshift_digit {xs : List Nat} (hxs : ∀ x ∈ xs, x < 4294967296) (i s : Nat) (hi : i < xs.length) (hs : s < 32) : (xs.getD (i + 1) 0 * 4294967296 + xs[i]) / 2 ^ s % 4294967296 = limbsVal xs / 2 ^ s / 4294967296 ^ i % 4294967296 := by
  have hx : ∃ r l, limbsVal xs = l + 4294967296 ^ i * (xs[i] + 4294967296 * xs.getD (i + 1) 0 + 18446744073709551616 * r) ∧ l = limbsVal (xs.take i) := by
    refine ⟨limbsVal (xs.drop (i + 2)), limbsVal (xs.take i), ?_, rfl⟩
    have e1 : limbsVal xs = limbsVal (xs.take i) + 4294967296 ^ i * limbsVal (xs.drop i) := by
      conv => lhs; rw [← List.take_append_drop i xs]
      rw [limbsVal_append, List.length_take, Nat.min_eq_left (by omega)]
    have e2 : limbsVal (xs.drop i) = xs[i] + 4294967296 * limbsVal (xs.drop (i + 1)) := by rw [List.drop_eq_getElem_cons hi]; rfl
    have e3 : limbsVal (xs.drop (i + 1)) = xs.getD (i + 1) 0 + 4294967296 * limbsVal (xs.drop (i + 2)) := by
      by_cases h : i + 1 < xs.length
      · rw [List.drop_eq_getElem_cons h]; simp [List.getD, h, limbsVal]
      rw [List.drop_of_length_le (by omega), List.drop_of_length_le (by omega)]; simp [List.getD, List.getElem?_eq_none (by omega : xs.length ≤ i + 1), limbsVal]
    rw [e1, e2, e3, Nat.mul_add 4294967296 (xs.getD (i + 1) 0)]
    congr 2
    omega
  obtain ⟨r, l, hR, hl⟩ := hx
  have hl' : l < 4294967296 ^ i := by
    have := limbsVal_lt (xs := xs.take i) (fun x hx => hxs x (List.mem_of_mem_take hx))
    rw [List.length_take, Nat.min_eq_left (by omega)] at this
    rw [hl]; exact this
  rw [Nat.div_div_eq_div_mul, Nat.mul_comm (2 ^ s), ← Nat.div_div_eq_div_mul, hR, Nat.add_mul_div_left _ _ (ww_pos i), Nat.div_eq_of_lt hl', Nat.zero_add]
  have e1 : (18446744073709551616 : Nat) * r = 2 ^ s * (4294967296 * (2 ^ (32 - s) * r)) := by
    have : (18446744073709551616 : Nat) = 2 ^ s * (4294967296 * 2 ^ (32 - s)) := by
      have e2 : (4294967296 : Nat) = 2 ^ 32 := by decide
      rw [e2, ← Nat.pow_add, ← Nat.pow_add, show s + (32 + (32 - s)) = 64 by omega]
    conv => lhs; rw [this]
    rw [Nat.mul_assoc, Nat.mul_assoc]
  rw [e1, Nat.add_mul_div_left _ _ (Nat.pow_pos (by decide)), Nat.add_mul_mod_self_left, Nat.mul_comm (xs.getD (i + 1) 0), Nat.add_comm]
set_option maxRecDepth 100000 in
set_option maxHeartbeats 1000000 in
theorem unshift_any (S : Nat → Prop) (u : Value) (xs : List Nat) (s : Nat) (w : World) (hS : ∀ b, S b → b < w.heap.size) (hl : xs.length ≤ 1000000000000) (hs : s < 32) (hu : rSlice 1 rU32 w S [u] xs) :
    Calls Tryd.prog 60 #[u, .int .u64 s] w fun e w' => ∃ r, e = .returned r ∧ rSlice 1 rU32 w' (LT w'.heap.size) [r] (limbsOf (limbsVal xs / 2 ^ s)) ∧ Below w.heap.size w w' := by
  have hxlt := hid (u32s_lt hu)
  obtain ⟨xa, xc, rfl, x1, x2, x3, x4⟩ := u32s_open hu
  have hn' := len_le x1 x2
  have hmk := fun (w : World) => make_one (P := Tryd.prog) Tryd.underlying82 Tryd.infoU32 rfl w xs.length (by omega) (by omega)
  go_enter Tryd.func60, Tryd.ntmps60
  go_wp2
  clear hmk
  go_loopw [6, 7, 13] (fun _ _ i wr => ∃ (k : Nat) (o : List Nat), k ≤ xs.length ∧ i = .int .i64 k ∧ Below w.heap.size w wr ∧ OwnL wr w.heap.size xs.length o ∧
      Hid (∀ j, j < k → o.getD j 0 = limbsVal xs / 2 ^ s / 4294967296 ^ j % 4294967296)) (fun _ _ i _ => xs.length - (intOf i).toNat)
  case atStart => exact ⟨0, _, Nat.zero_le _, rfl, (Below.refl _ _).alloc (Nat.le_refl _) _, OwnL.new _ _, fun j hj => by omega⟩
  case round =>
    obtain ⟨k, o, hk, rfl, hbw, hown, HE⟩ := hrel
    by_cases hlt : k < xs.length
    · rcases x4 with rfl | ⟨b1, off1, rfl, x4⟩
      · simp at hlt
      obtain ⟨g0, g1⟩ := x4.u32 hlt
      rw [← hbw.cell (p := ⟨b1, off1 + k, none⟩) (hS _ x4.1)] at g0
      have hko : k < o.length := by rw [hown.1]; omega
      have c1 := hown.cell hko
      have c2 := hown.frozen k
      have HD := hid (unshift_digit hxlt.out k s hlt hs)
      obtain ⟨x, hx⟩ : ∃ x, x = xs[k] := ⟨_, rfl⟩
      rw [← hx] at g0 g1 HD
      clear hx
      by_cases hk1 : k + 1 < xs.length
      · obtain ⟨f0, f1⟩ := x4.u32 hk1
        rw [← hbw.cell (p := ⟨b1, off1 + (k + 1), none⟩) (hS _ x4.1)] at f0
        have ey : xs.getD (k + 1) 0 = xs[k + 1] := by simp [List.getD, hk1]
        rw [ey] at HD
        obtain ⟨y, hy⟩ : ∃ y, y = xs[k + 1] := ⟨_, rfl⟩
        rw [← hy] at f0 f1 HD
        clear hy ey
        have o1 := or32_add' x y g1 f1
        obtain ⟨d, hd⟩ : ∃ d : Nat, d = (y * 4294967296 + x) / 2 ^ s % 4294967296 := ⟨_, rfl⟩
        have hd1 : d < 4294967296 := by rw [hd]; exact Nat.mod_lt _ (by decide)
        have HV := hid (show ((y : Int) * 4294967296 + (x : Int)) / 2 ^ s % 4294967296 = (d : Int) by
          rw [hd, Int.natCast_emod, Int.natCast_ediv, Int.natCast_pow]; try rw [Int.natCast_add, Int.natCast_mul]
          rfl)
        skip
        rw [HD.out] at hd
        have HD2 := hid hd
        clear hd HD
        go_wp2
        go_roundw
        case rel =>
          rw [HV.out]
          refine ⟨k + 1, o.set k d, by omega, by go_num, hbw.setCell (Nat.le_refl _) _, hown.set hko hd1, fun j hj => ?_⟩
          by_cases hjk : j = k
          · subst hjk; rw [← HD2.out]; simp [List.getD, hko]
          rw [← HE.out j (by omega)]; simp [List.getD, List.getElem?_set, show ¬ k = j by omega]
        case measure => simp [intOf]; omega
      have ey : xs.getD (k + 1) 0 = 0 := by simp [List.getD, List.getElem?_eq_none (by omega : xs.length ≤ k + 1)]
      rw [ey] at HD
      clear ey
      obtain ⟨d, hd⟩ : ∃ d : Nat, d = x / 2 ^ s % 4294967296 := ⟨_, rfl⟩
      have hd1 : d < 4294967296 := by rw [hd]; exact Nat.mod_lt _ (by decide)
      have HV := hid (show (x : Int) / 2 ^ s % 4294967296 = (d : Int) by
        rw [hd, Int.natCast_emod, Int.natCast_ediv, Int.natCast_pow]; try rw [Int.natCast_add, Int.natCast_mul]
        rfl)
      rw [show x = 0 * 4294967296 + x by omega] at hd
      rw [HD.out] at hd
      have HD2 := hid hd
      clear hd HD
      go_wp2
      go_roundw
      case rel =>
        rw [HV.out]
        refine ⟨k + 1, o.set k d, by omega, by go_num, hbw.setCell (Nat.le_refl _) _, hown.set hko hd1, fun j hj => ?_⟩
        by_cases hjk : j = k
        · subst hjk; rw [← HD2.out]; simp [List.getD, hko]
        rw [← HE.out j (by omega)]; simp [List.getD, List.getElem?_set, show ¬ k = j by omega]
      case measure => simp [intOf]; omega
    have hoe : o = limbsFix xs.length (limbsVal xs / 2 ^ s) := by
      apply List.ext_getElem?
      intro j
      by_cases hj : j < xs.length
      · have h1 := HE.out j (by omega)
        rw [limbsFix_get _ _ _ hj, ← h1]
        have : j < o.length := by rw [hown.1]; exact hj
        simp [List.getD, this]
      rw [List.getElem?_eq_none (by rw [hown.1]; omega), List.getElem?_eq_none (by rw [limbsFix_len]; omega)]
    have hval : limbsVal o = limbsVal xs / 2 ^ s := by
      rw [hoe, limbsFix_val]
      apply Nat.mod_eq_of_lt
      exact Nat.lt_of_le_of_lt (Nat.div_le_self _ _) (limbsVal_lt hxlt.out)
    have hT := trim_any _ _ _ _ (hown.slice (by omega))
    rw [hval] at hT
    have HT := hid hT
    clear hval hoe hT
    go_wp2_with fail
    refine Calls.mono HT.out ?_
    rintro e' w3 ⟨r, rfl, rfl, hr⟩
    go_wp2
    go_ret
    exact ⟨_, rfl, hr, hbw⟩
end Go.Proofs.YtokmkopihhnggaaDoor
end
section
/- Long division, one digit (Knuth's algorithm D): plain. -/
namespace Go.Proofs.YtokmkopihhnggaaDoor
section
variable {D U M D0 U0 dt d2 top u2 : Nat} (hD : D = (dt * 4294967296 + d2) * M + D0) (hU : U = (top * 4294967296 + u2) * M + U0) (hD0 : D0 < M) (hU0 : U0 < M)
include hD hU hU0
theorem knuth_dec {G R : Nat} (h : G * dt + R = top) (hg : R * 4294967296 + u2 < G * d2) : U < G * D := by
  have h1 : (top * 4294967296 + u2 + 1) * M ≤ (G * (dt * 4294967296 + d2)) * M := by
    apply Nat.mul_le_mul_right
    rw [← h, Nat.mul_add, Nat.add_mul, ← Nat.mul_assoc]
    omega
  rw [Nat.add_mul, Nat.one_mul] at h1
  have h2 : G * D = G * (dt * 4294967296 + d2) * M + G * D0 := by rw [hD, Nat.mul_add, ← Nat.mul_assoc]
  rw [hU, h2]
  omega
include hD0
theorem knuth_exit {G R : Nat} (hdt : 0 < dt) (h : G * dt + R = top) (hg : G * d2 ≤ R * 4294967296 + u2) (hG : G ≤ 4294967296) : G * D ≤ U + D := by
  have h1 : (G * (dt * 4294967296 + d2)) * M ≤ (top * 4294967296 + u2) * M := by
    apply Nat.mul_le_mul_right
    rw [← h, Nat.mul_add, Nat.add_mul, ← Nat.mul_assoc]
    omega
  have h2 : G * D = G * (dt * 4294967296 + d2) * M + G * D0 := by rw [hD, Nat.mul_add, ← Nat.mul_assoc]
  have h3 : G * D0 ≤ 4294967296 * M := Nat.mul_le_mul hG (Nat.le_of_lt hD0)
  have h4 : 4294967296 * M ≤ (dt * 4294967296 + d2) * M := Nat.mul_le_mul_right _ (by omega)
  rw [h2]
  omega
end
theorem limbsVal_split (xs : List Nat) (m : Nat) (hm : m ≤ xs.length) : limbsVal xs = limbsVal (xs.take m) + 4294967296 ^ m * limbsVal (xs.drop m) := by
  conv => lhs; rw [← List.take_append_drop m xs]
  rw [limbsVal_append, List.length_take, Nat.min_eq_left hm]
theorem split_top2 {xs : List Nat} (h : ∀ x ∈ xs, x < 4294967296) (m : Nat) (hl : xs.length = m + 2) :
    ∃ X0, X0 < 4294967296 ^ m ∧ limbsVal xs = (xs.getD (m + 1) 0 * 4294967296 + xs.getD m 0) * 4294967296 ^ m + X0 := by
  refine ⟨limbsVal (xs.take m), ?_, ?_⟩
  · have := limbsVal_lt (xs := xs.take m) (fun x hx => h x (List.mem_of_mem_take hx))
    rwa [List.length_take, Nat.min_eq_left (by omega)] at this
  rw [limbsVal_split xs m (by omega)]
  have e : xs.drop m = [xs.getD m 0, xs.getD (m + 1) 0] := by
    rw [List.drop_eq_getElem_cons (by omega), List.drop_eq_getElem_cons (by omega), List.drop_of_length_le (by omega)]
    simp [List.getD, show m < xs.length by omega, show m + 1 < xs.length by omega]
  rw [e]
  simp only [limbsVal]
  rw [Nat.mul_comm (4294967296 ^ m), Nat.add_comm, Nat.mul_comm 4294967296, Nat.mul_zero, Nat.add_zero]
  congr 2
  omega
theorem split_top3 {xs : List Nat} (h : ∀ x ∈ xs, x < 4294967296) (m : Nat) (hl : xs.length = m + 3) :
    ∃ X0, X0 < 4294967296 ^ m ∧ limbsVal xs = ((xs.getD (m + 2) 0 * 4294967296 + xs.getD (m + 1) 0) * 4294967296 + xs.getD m 0) * 4294967296 ^ m + X0 := by
  refine ⟨limbsVal (xs.take m), ?_, ?_⟩
  · have := limbsVal_lt (xs := xs.take m) (fun x hx => h x (List.mem_of_mem_take hx))
    rwa [List.length_take, Nat.min_eq_left (by omega)] at this
  rw [limbsVal_split xs m (by omega)]
  have e : xs.drop m = [xs.getD m 0, xs.getD (m + 1) 0, xs.getD (m + 2) 0] := by
    rw [List.drop_eq_getElem_cons (by omega), List.drop_eq_getElem_cons (by omega), List.drop_eq_getElem_cons (by omega), List.drop_of_length_le (by omega)]
    simp [List.getD, show m < xs.length by omega, show m + 1 < xs.length by omega, show m + 2 < xs.length by omega]
  rw [e]
  simp only [limbsVal]
  rw [Nat.mul_comm (4294967296 ^ m), Nat.add_comm, Nat.mul_zero, Nat.add_zero]
  congr 2
  omega
theorem knuth_two {U D G : Nat} (hD : 0 < D) (h1 : U < (G + 1) * D) (h2 : G * D ≤ U + D) : G = U / D ∨ G = U / D + 1 := by
  have h3 : U / D ≤ G := by
    have := Nat.div_lt_of_lt_mul (show U < D * (G + 1) by rw [Nat.mul_comm]; exact h1)
    omega
  have h4 : G ≤ U / D + 1 := by
    have h5 : U < (U / D + 1) * D := by rw [Nat.mul_comm]; exact Nat.lt_mul_div_succ U hD
    rcases Nat.lt_or_ge (U / D + 1) G with h | h
    · exfalso
      have h6 : (U / D + 1 + 1) * D ≤ G * D := Nat.mul_le_mul_right _ h
      rw [Nat.add_mul, Nat.one_mul] at h6
      omega
    exact h
  omega
theorem knuth_un {D U M D0 U0 dt d2 un u1 u2 : Nat} (hDe : D = (dt * 4294967296 + d2) * M + D0) (hUe : U = ((un * 4294967296 + u1) * 4294967296 + u2) * M + U0) (hD0 : D0 < M) (l4 : d2 < 4294967296) (hU : U < 4294967296 * D) : un ≤ dt := by
  rcases Nat.lt_or_ge dt un with h | h
  · exfalso
    have h1 : (dt * 4294967296 + d2 + 1) * M ≤ (dt + 1) * 4294967296 * M := Nat.mul_le_mul_right _ (by omega)
    have h2 : (dt + 1) * 4294967296 * 4294967296 * M ≤ ((un * 4294967296 + u1) * 4294967296 + u2) * M := Nat.mul_le_mul_right _ (by omega)
    rw [Nat.add_mul, Nat.one_mul] at h1
    have h3 : (dt + 1) * 4294967296 * 4294967296 * M = 4294967296 * ((dt + 1) * 4294967296 * M) := by rw [Nat.mul_assoc ((dt + 1) * 4294967296), Nat.mul_left_comm]
    omega
  exact h
theorem knuth_first' {W D U M D0 U0 dt d2 t u2 G0 R0 : Nat} (hDe : D = (dt * W + d2) * M + D0) (hUe : U = (t * W + u2) * M + U0) (hU0 : U0 < M) (l2 : u2 < W)
    (hGR : G0 * dt + R0 = t) (hR0l : R0 < dt) : U < (G0 + 1) * D := by
  have h1 : t + 1 ≤ (G0 + 1) * dt := by rw [Nat.add_mul]; omega
  have h2 : (t + 1) * (W * M) ≤ (G0 + 1) * dt * (W * M) := Nat.mul_le_mul_right _ h1
  have h3 : dt * (W * M) ≤ D := by
    rw [hDe, Nat.add_mul, Nat.mul_assoc, Nat.add_assoc]
    exact Nat.le_add_right _ _
  have h3' : (G0 + 1) * (dt * (W * M)) ≤ (G0 + 1) * D := Nat.mul_le_mul_left _ h3
  rw [← Nat.mul_assoc (G0 + 1) dt] at h3'
  have h5 : t * W + u2 + 1 ≤ (t + 1) * W := by rw [Nat.add_mul]; omega
  have h6 : (t * W + u2 + 1) * M ≤ (t + 1) * W * M := Nat.mul_le_mul_right _ h5
  rw [Nat.add_mul (t * W + u2), Nat.one_mul, Nat.mul_assoc (t + 1)] at h6
  rw [hUe]
  generalize (t * W + u2) * M = a at *
  generalize (t + 1) * (W * M) = b at *
  omega
theorem knuth_first {D U M D0 U0 dt d2 un u1 u2 G0 R0 : Nat} (hDe : D = (dt * 4294967296 + d2) * M + D0) (hUe : U = ((un * 4294967296 + u1) * 4294967296 + u2) * M + U0) (hU0 : U0 < M) (l2 : u2 < 4294967296)
    (hGR : G0 * dt + R0 = un * 4294967296 + u1) (hR0l : R0 < dt) : U < (G0 + 1) * D := knuth_first' hDe hUe hU0 l2 hGR hR0l
theorem knuth_g0 {dt un u1 G0 R0 : Nat} (hdt : 2147483648 ≤ dt) (hun : un ≤ dt) (l1 : u1 < 4294967296) (hGR : G0 * dt + R0 = un * 4294967296 + u1) : G0 ≤ 4294967297 := by
  rcases Nat.lt_or_ge 4294967297 G0 with h | h
  · exfalso
    have : 4294967298 * dt ≤ G0 * dt := Nat.mul_le_mul_right _ h
    omega
  exact h
theorem knuth_end0 {U D G U' : Nat} (hD : 0 < D) (h : G = U / D ∨ G = U / D + 1) (he : U' + G * D = U) : G = U / D ∧ U' = U % D := by
  have h1 := Nat.div_add_mod U D
  rw [Nat.mul_comm] at h1
  have h2 := Nat.mod_lt U hD
  rcases h with h | h
  · rw [h] at he; exact ⟨h, by omega⟩
  exfalso; rw [h, Nat.add_mul] at he; omega
theorem knuth_end1 {U D G U' P : Nat} (hD : 0 < D) (h : G = U / D ∨ G = U / D + 1) (hP : U' < P) (he : U' + G * D = U + P) : G = U / D + 1 ∧ U' + D = P + U % D := by
  have h1 := Nat.div_add_mod U D
  rw [Nat.mul_comm] at h1
  rcases h with h | h
  · exfalso; rw [h] at he; omega
  refine ⟨h, ?_⟩; rw [h, Nat.add_mul] at he; omega
theorem take_set_snoc {o : List Nat} {off k d : Nat} (hk : off + k < o.length) : ((o.set (off + k) d).drop off).take (k + 1) = (o.drop off).take k ++ [d] := by
  apply List.ext_getElem?
  intro i
  rcases Nat.lt_trichotomy i k with h | h | h
  · rw [List.getElem?_append_left (by simp; omega)]
    simp [List.getElem?_take, show i < k + 1 by omega, h, List.getElem?_set, show ¬ k = i by omega]
  · subst h
    rw [List.getElem?_append_right (by simp; omega)]
    simp [List.getElem?_take, hk, show min i (o.length - off) = i by omega]
  rw [List.getElem?_eq_none (by simp; omega), List.getElem?_eq_none (by simp; omega)]
theorem take_len {o : List Nat} {off k : Nat} (hk : off + k ≤ o.length) : ((o.drop off).take k).length = k := by simp; omega
theorem take_succ_off {o : List Nat} {off k : Nat} (hk : off + k < o.length) : (o.drop off).take (k + 1) = (o.drop off).take k ++ [o.getD (off + k) 0] := by
  rw [List.take_succ_eq_append_getElem (by simp; omega)]
  simp [List.getD, hk]
end Go.Proofs.YtokmkopihhnggaaDoor
end
section
/- Contracts of the kit's shelf, laid at this translation by the kit's own tool: bits.Len32, bits.LeadingZeros32, strings.Compare. -/
namespace Go.Proofs
open Go.Shelf
def Tryd.lays133_ren : Go.Shelf.Ren := ⟨fun | 133 => 57 | 128 => 70 | n => n, fun | 51 => 87 | 3 => 3 | 4 => 4 | 46 => 88 | 5 => 5 | 9 => 9 | n => n, fun | n => n⟩
theorem Tryd.lays133 : Go.Proofs.Lays.n133 Tryd.prog Tryd.lays133_ren := {
  mixed := by kernel_rfl
  f128 := Tryd.func70.trans (congrArg some (by kernel_rfl))
  f133 := Tryd.func57.trans (congrArg some (by kernel_rfl))
  t3 := Tryd.underlying3
  a3 := Tryd.isAgg3
  z3 := Tryd.sizeOf3
  v3 := Tryd.zeroValue3
  t4 := Tryd.underlying4
  a4 := Tryd.isAgg4
  z4 := Tryd.sizeOf4
  v4 := Tryd.zeroValue4
  t5 := Tryd.underlying5
  a5 := Tryd.isAgg5
  z5 := Tryd.sizeOf5
  v5 := Tryd.zeroValue5
  t9 := Tryd.underlying9
  a9 := Tryd.isAgg9
  z9 := Tryd.sizeOf9
  v9 := Tryd.zeroValue9
  t46 := Tryd.underlying88
  a46 := Tryd.isAgg88
  z46 := Tryd.sizeOf88
  v46 := Tryd.zeroValue88
  t51 := Tryd.underlying87
  a51 := Tryd.isAgg87
  z51 := Tryd.sizeOf87
  v51 := Tryd.zeroValue87 }
theorem Tryd.bits_LeadingZeros32 (x : Int) (w : World) (h0 : 0 ≤ x) (h1 : x ≤ 4294967295) :
    Calls Tryd.prog 57 #[.int .u32 x] w fun e w' => e = .returned (.int .i64 (32 - (Lib.bitLen x.toNat : Int))) ∧ w' = w := Any.bits_LeadingZeros32 Tryd.lays133 x w h0 h1
def Tryd.lays106_ren : Go.Shelf.Ren := ⟨fun | 106 => 74 | 213 => 84 | 265 => 88 | n => n, fun | 9 => 9 | 3 => 3 | n => n, fun | n => n⟩
theorem Tryd.lays106 : Go.Proofs.Lays.n106 Tryd.prog Tryd.lays106_ren := {
  mixed := by kernel_rfl
  f106 := Tryd.func74.trans (congrArg some (by kernel_rfl))
  f213 := Tryd.func84.trans (congrArg some (by kernel_rfl))
  f265 := Tryd.func88.trans (congrArg some (by kernel_rfl))
  t3 := Tryd.underlying3
  a3 := Tryd.isAgg3
  z3 := Tryd.sizeOf3
  v3 := Tryd.zeroValue3
  t9 := Tryd.underlying9
  a9 := Tryd.isAgg9
  z9 := Tryd.sizeOf9
  v9 := Tryd.zeroValue9 }
open Go.RowKit in
theorem Tryd.strings_Compare (a b : ByteArray) (w : World) :
    Calls Tryd.prog 74 #[.string a, .string b] w fun e w' => e = .returned (.int .i64 (Lib.compareBytes a.data.toList b.data.toList)) ∧ w' = w := Any.strings_Compare Tryd.lays106 a b w
end Go.Proofs
end
section
/- natural: divide, first two cases: walked. -/
namespace Go.Proofs.YtokmkopihhnggaaDoor
open Go.RowKit
theorem rSlice_nil32 (w : World) (S : Nat → Prop) : rSlice 1 rU32 w S [.slice none 0 0] (limbsOf 0) := by
  rw [limbsOf_zero]
  exact ⟨none, 0, rfl, by simp, by unfold maxLen; omega, fun _ => rfl, .inl rfl⟩
theorem limbsOf_one {y : Nat} (h : (limbsOf y).length = 1) : limbsOf y = [y] ∧ 0 < y ∧ y < 4294967296 := by
  have h1 := limbsVal_limbsOf y
  have h2 := limbsOf_lt y
  match hl : limbsOf y, h with
  | [z], _ =>
    rw [hl] at h1 h2
    simp only [limbsVal] at h1
    have h3 := h2 z (by simp)
    refine ⟨by simp; omega, ?_, by omega⟩
    rcases Nat.eq_zero_or_pos y with h0 | h0
    · subst h0; rw [limbsOf_zero] at hl; cases hl
    exact h0
theorem divide_lt (S : Nat → Prop) (u v : Value) (x y : Nat) (w : World) (hS : ∀ b, S b → b < w.heap.size) (hxy : x < y) (hu : rSlice 1 rU32 w S [u] (limbsOf x)) (hv : rSlice 1 rU32 w S [v] (limbsOf y)) :
    Calls Tryd.prog 41 #[u, v] w fun e w' => ∃ q r, e = .returned (.tuple #[q, r]) ∧ rSlice 1 rU32 w' (LT w'.heap.size) [q] (limbsOf (x / y)) ∧ rSlice 1 rU32 w' (LT w'.heap.size) [r] (limbsOf (x % y)) ∧ Below w.heap.size w w' := by
  have hc := compare_any S u v x y w hS hu hv
  rw [natCmp_lt hxy] at hc
  have HC := hid hc
  clear hc
  go_enter Tryd.func41, Tryd.ntmps41
  go_wp2_with fail
  refine Calls.mono HC.out ?_
  rintro e w1 ⟨rfl, hb1⟩
  go_wp2
  go_ret2
  refine ⟨_, _, rfl, ?_, ?_, hb1⟩
  · rw [Nat.div_eq_of_lt hxy]; exact rSlice_nil32 _ _
  rw [Nat.mod_eq_of_lt hxy]
  exact (stays_rSlice stays_rU32) _ _ _ _ _ _ hu (fun b hb => hb1.block b (hS b hb)) fun b hb => Nat.lt_of_lt_of_le (hS b hb) hb1.size
set_option maxRecDepth 100000 in
theorem divide_small (S : Nat → Prop) (u v : Value) (x y : Nat) (w : World) (hS : ∀ b, S b → b < w.heap.size) (hl : (limbsOf x).length ≤ 1000000000000) (hxy : y ≤ x) (hy1 : (limbsOf y).length = 1) (hu : rSlice 1 rU32 w S [u] (limbsOf x)) (hv : rSlice 1 rU32 w S [v] (limbsOf y)) :
    Calls Tryd.prog 41 #[u, v] w fun e w' => ∃ q r, e = .returned (.tuple #[q, r]) ∧ rSlice 1 rU32 w' (LT w'.heap.size) [q] (limbsOf (x / y)) ∧ rSlice 1 rU32 w' (LT w'.heap.size) [r] (limbsOf (x % y)) ∧ Below w.heap.size w w' := by
  obtain ⟨ey, hy0, hyW⟩ := limbsOf_one hy1
  have hc := compare_any S u v x y w hS hu hv
  have hcn : ¬ natCmp x y < 0 := by unfold natCmp; rw [if_neg (by omega)]; split <;> omega
  have HC := hid hc
  clear hc
  have hv' := hv
  have hu' := hid hu
  have hvx := hid (limbsVal_limbsOf x)
  rw [ey] at hv'
  obtain ⟨va, vc, rfl, v1, v2, v3, v4⟩ := u32s_open hv'
  rcases v4 with v4 | ⟨vb, voff, rfl, v4⟩
  · cases v4
  have g0 := (v4.u32 (j := 0) (by simp)).1
  have hvS := hS vb v4.1
  simp only [List.getElem_cons_zero, Nat.add_zero] at g0
  have hsz : ([y] : List Nat).length = 1 := rfl
  clear hv hv' ey
  go_enter Tryd.func41, Tryd.ntmps41
  go_wp2_with fail
  refine Calls.mono HC.out ?_
  rintro e w1 ⟨rfl, hb1⟩
  rw [← hb1.cell (p := ⟨vb, voff, none⟩) hvS] at g0
  have hu1 : rSlice 1 rU32 w1 (LT w1.heap.size) [u] (limbsOf x) := (stays_rSlice stays_rU32) _ _ _ _ _ _ hu'.out (fun b hb => hb1.block b (hS b hb)) fun b hb => Nat.lt_of_lt_of_le (hS b hb) hb1.size
  have HD := hid (divideSmall_any _ _ _ y _ (fun _ h => h) hl hy0 hyW hu1)
  rw [hvx.out] at HD
  have hxm : x % y < 4294967296 := Nat.lt_of_lt_of_le (Nat.mod_lt _ hy0) (by omega)
  go_wp2_with fail
  refine Calls.mono HD.out ?_
  rintro e w2 ⟨q, rfl, hq, hb2⟩
  have hO : OwnL (w2.alloc (.cells #[.int .u32 ((x % y : Nat) : Int)] 87)) w2.heap.size 1 [x % y] := by
    refine ⟨rfl, fun z hz => by simp at hz; omega, fun j => .int .u32 (([x % y] : List Nat).getD j 0 : Nat), ?_, fun j => rfl⟩
    have := Own.new w2 87 1 (fun j => .int .u32 (([x % y] : List Nat).getD j 0 : Nat))
    have e : (Array.range 1).map (fun j => Value.int .u32 (([x % y] : List Nat).getD j 0 : Nat)) = #[.int .u32 ((x % y : Nat) : Int)] := by
      apply Array.ext'
      simp [List.range_succ]
    rw [e] at this
    exact this
  have hT := trim_any _ _ _ _ (hO.slice (by omega))
  have e1 : limbsVal [x % y] = x % y := by simp [limbsVal]
  rw [e1] at hT
  have HT := hid hT
  have hb3 : Below w2.heap.size w2 (w2.alloc (.cells #[.int .u32 ((x % y : Nat) : Int)] 87)) := (Below.refl _ _).alloc (Nat.le_refl _) _
  clear hT e1 hO hu1
  go_wp2_with fail
  refine Calls.mono HT.out ?_
  rintro e w3 ⟨r, rfl, rfl, hr⟩
  go_wp2
  go_ret2
  exact ⟨_, _, rfl, (stays_rSlice stays_rU32).below hq hb3 hb3.size, hr, hb1.step (hb2.step hb3)⟩
end Go.Proofs.YtokmkopihhnggaaDoor
end
section
/- insolvencyref1: divide, first two cases: walked. -/
namespace Go.Proofs.YtokmkopihhnggaaDoor
open Go.RowKit
end Go.Proofs.YtokmkopihhnggaaDoor
end
section
/- natural: step: walked. -/
namespace Go.Proofs.YtokmkopihhnggaaDoor
open Go.RowKit
theorem grow_set {w w' : World} {g : Nat} (h : w.grownBy w' (some g)) (p : Nat) (v : Value) : w.grownBy (w'.setCell ⟨g, p, none⟩ v) (some g) :=
  ⟨h.os, h.tape, h.output, by simpa using h.size, fun k hk hne => by rw [Below.heap_setCell _ _ _ _ (fun e => hne (by rw [e]))]; exact h.block k hk hne⟩
theorem grow_drewN {w w' : World} {r : Option Nat} (h : w.grownBy w' r) (n : Nat) : w.grownBy (w'.drewN n) r := ⟨h.os, h.tape, h.output, h.size, h.block⟩
theorem grow_cell {w w' : World} {g b : Nat} (h : w.grownBy w' (some g)) (hb : b < w.heap.size) (hne : b ≠ g) (o : Nat) : w'.cell? ⟨b, o, none⟩ = w.cell? ⟨b, o, none⟩ :=
  World.cell?_of_block (h.block b hb (fun e => hne (Option.some.inj e)))
theorem OwnL.drewN {w : World} {g n : Nat} {o : List Nat} (h : OwnL w g n o) (k : Nat) : OwnL (w.drewN k) g n o := h
set_option maxRecDepth 100000 in
set_option maxHeartbeats 2000000 in
theorem step_any (S : Nat → Prop) (v : Value) (ds o : List Nat) (g off N cap n : Nat) (w : World) (hS : ∀ b, S b → b < w.heap.size ∧ b ≠ g) (hN : N ≤ 1000000000000) (hn2 : 2 ≤ n) (hdl : ds.length = n) (hoff : off + n < N) (hcap : n + 1 ≤ cap)
    (hv : rSlice 1 rU32 w S [v] ds) (hown : OwnL w g N o) (htop : 2147483648 ≤ ds.getD (n - 1) 0) (hU : limbsVal ((o.drop off).take (n + 1)) < 4294967296 * limbsVal ds) :
    Calls Tryd.prog 59 #[.slice (some ⟨g, off, none⟩) (n + 1) cap, v] w fun e w' => ∃ o', e = .returned (.int .u32 ((limbsVal ((o.drop off).take (n + 1)) / limbsVal ds : Nat) : Int)) ∧ OwnL w' g N o' ∧
      (∀ j, j < off ∨ off + n < j → o'.getD j 0 = o.getD j 0) ∧ limbsVal ((o'.drop off).take (n + 1)) = limbsVal ((o.drop off).take (n + 1)) % limbsVal ds ∧ w.grownBy w' (some g) := by
  have hdlt := hid (u32s_lt hv)
  obtain ⟨da, dc, rfl, x1, x2, x3, x4⟩ := u32s_open hv
  rcases x4 with rfl | ⟨db, doff, rfl, x4⟩
  · simp at hdl; omega
  rw [hdl]
  have n1 : (n : Int) - 1 = ((n - 1 : Nat) : Int) := by omega
  have n2 : (n : Int) - 2 = ((n - 2 : Nat) : Int) := by omega
  have hol := hown.1
  have hw0 : off + n < o.length := by omega
  have hw1 : off + (n - 1) < o.length := by omega
  have hw2 : off + (n - 2) < o.length := by omega
  have c0 := hown.cell hw0
  have c1 := hown.cell hw1
  have c2 := hown.cell hw2
  have hd1 : n - 1 < ds.length := by omega
  have hd2 : n - 2 < ds.length := by omega
  have k1 := (x4.u32 hd1).1
  have k2 := (x4.u32 hd2).1
  obtain ⟨un, hun⟩ : ∃ x, x = o[off + n] := ⟨_, rfl⟩
  obtain ⟨u1, hu1⟩ : ∃ x, x = o[off + (n - 1)] := ⟨_, rfl⟩
  obtain ⟨u2, hu2⟩ : ∃ x, x = o[off + (n - 2)] := ⟨_, rfl⟩
  obtain ⟨dt, hdt⟩ : ∃ x, x = ds[n - 1] := ⟨_, rfl⟩
  obtain ⟨d2, hd2'⟩ : ∃ x, x = ds[n - 2] := ⟨_, rfl⟩
  have l0 : un < 4294967296 := by rw [hun]; exact hown.2.1 _ (List.getElem_mem hw0)
  have l1 : u1 < 4294967296 := by rw [hu1]; exact hown.2.1 _ (List.getElem_mem hw1)
  have l2 : u2 < 4294967296 := by rw [hu2]; exact hown.2.1 _ (List.getElem_mem hw2)
  have l3 : dt < 4294967296 := by rw [hdt]; exact hdlt.out _ (List.getElem_mem hd1)
  have l4 : d2 < 4294967296 := by rw [hd2']; exact hdlt.out _ (List.getElem_mem hd2)
  have htop' : 2147483648 ≤ dt := by simpa [List.getD, hd1, ← hdt] using htop
  rw [← hun] at c0
  rw [← hu1] at c1
  rw [← hu2] at c2
  rw [← hdt] at k1
  rw [← hd2'] at k2
  have o1 := or32_add un u1 l0 l1
  obtain ⟨G0, hG0⟩ : ∃ G : Nat, G = (un * 4294967296 + u1) / dt := ⟨_, rfl⟩
  obtain ⟨R0, hR0⟩ : ∃ R : Nat, R = (un * 4294967296 + u1) % dt := ⟨_, rfl⟩
  have hGR : G0 * dt + R0 = un * 4294967296 + u1 := by rw [hG0, hR0, Nat.mul_comm]; exact Nat.div_add_mod _ _
  have hR0l : R0 < dt := by rw [hR0]; exact Nat.mod_lt _ (by omega)
  have eT : ((un * 4294967296 + u1 : Nat) : Int) = (un : Int) * 4294967296 + (u1 : Int) := by omega
  have q1 : ((un : Int) * 4294967296 + (u1 : Int)) / (dt : Int) = (G0 : Int) := by rw [hG0, Int.natCast_ediv, eT]
  have q2 : ((un : Int) * 4294967296 + (u1 : Int)) % (dt : Int) = (R0 : Int) := by rw [hR0, Int.natCast_emod, eT]
  clear eT
  have Hun := hid hun
  have Hu1 := hid hu1
  have Hu2 := hid hu2
  have Hdt := hid hdt
  have Hd2 := hid hd2'
  have HGR := hid hGR
  have HU := hid hU
  have Hol := hid hol
  have Hdl := hid hdl
  obtain ⟨D, hD⟩ : ∃ D, D = limbsVal ds := ⟨_, rfl⟩
  obtain ⟨U, hUU⟩ : ∃ U, U = limbsVal ((o.drop off).take (n + 1)) := ⟨_, rfl⟩
  have hM : ∃ M D0 U0, 0 < M ∧ D0 < M ∧ U0 < M ∧ D = (dt * 4294967296 + d2) * M + D0 ∧ U = ((un * 4294967296 + u1) * 4294967296 + u2) * M + U0 := by
    obtain ⟨D0, h1, h2⟩ := split_top2 hdlt.out (n - 2) (by omega)
    obtain ⟨U0, h3, h4⟩ := split_top3 (xs := (o.drop off).take (n + 1)) (fun x hx => hown.2.1 x (List.mem_of_mem_drop (List.mem_of_mem_take hx))) (n - 2) (by simp; omega)
    refine ⟨4294967296 ^ (n - 2), D0, U0, ww_pos _, h1, h3, ?_, ?_⟩
    · rw [hD, h2, show n - 2 + 1 = n - 1 by omega]
      simp [List.getD, hd1, hd2, ← hdt, ← hd2']
    rw [hUU, h4, show n - 2 + 1 = n - 1 by omega, show n - 2 + 2 = n by omega]
    have g0 : ((o.drop off).take (n + 1)).getD n 0 = un := by simp [List.getD, List.getElem?_take, hw0, ← hun]
    have g1 : ((o.drop off).take (n + 1)).getD (n - 1) 0 = u1 := by simp [List.getD, List.getElem?_take, hw1, ← hu1, show n - 1 < n + 1 by omega]
    have g2 : ((o.drop off).take (n + 1)).getD (n - 2) 0 = u2 := by simp [List.getD, List.getElem?_take, hw2, ← hu2, show n - 2 < n + 1 by omega]
    rw [g0, g1, g2]
  rw [← hD, ← hUU] at hU HU
  rw [← hD, ← hUU]
  obtain ⟨M, D0, U0, hM0, hD0, hU0, hDe, hUe⟩ := hM
  have hun_le : un ≤ dt := knuth_un hDe hUe hD0 l4 hU
  have hG0l : G0 ≤ 4294967297 := knuth_g0 htop' hun_le l1 hGR
  have hGU : U < (G0 + 1) * D := knuth_first hDe hUe hU0 l2 hGR hR0l
  have hDpos : 0 < D := by
    rw [hDe]
    have : 1 * M ≤ (dt * 4294967296 + d2) * M := Nat.mul_le_mul_right _ (by omega)
    omega
  have HdecL := hid (fun G R h hg => knuth_dec (G := G) (R := R) hDe hUe hU0 h hg)
  have HexitL := hid (fun G R h hg hG => knuth_exit (G := G) (R := R) hDe hUe hD0 hU0 (by omega) h hg hG)
  have HD := hid hD
  have HUU := hid hUU
  have HGU := hid hGU
  have HU' := hid hU
  clear hun hu1 hu2 hdt hd2' hGR hG0 hR0 hU hol hdl htop hD hUU hDe hUe hGU hM0 hD0 hU0 HU
  go_enter Tryd.func59, Tryd.ntmps59
  go_wp2
  go_quiet (fail)
  go_wp2
  go_quiet (fail)
  go_upto_block 0 with fail
  go_cut [7, 8] (fun s7 _ wx => ∃ G : Nat, s7 = .int .u64 G ∧ G ≤ 4294967296 ∧ Hid (U < (G + 1) * D) ∧ Hid (G * D ≤ U + D) ∧ OwnL wx g N o ∧ w.grownBy wx (some g))
  case first =>
    go_wp2_with fail
    go_loopw [7, 8] (fun s7 s8 wr => ∃ G R : Nat, s7 = .int .u64 G ∧ s8 = .int .u64 R ∧ Hid (G * dt + R = un * 4294967296 + u1) ∧ R < 4294967296 ∧ G ≤ 4294967297 ∧ Hid (U < (G + 1) * D) ∧ OwnL wr g N o ∧ w.grownBy wr (some g)) (fun s7 _ _ => (intOf s7).toNat)
    case atStart => exact ⟨G0, R0, by rw [q1], by rw [q2], HGR, by omega, hG0l, HGU, hown, grow_drewN (grow_drewN (World.grownBy.refl _ _) _) _⟩
    case round =>
      clear c0 c1 c2 k1 k2 hown
      obtain ⟨G, R, rfl, rfl, HG, hR, hGl, HGu, hown, hgr⟩ := hrel
      have k1 := (x4.u32 hd1).1
      have k2 := (x4.u32 hd2).1
      rw [← grow_cell hgr (hS _ x4.1).1 (hS _ x4.1).2, ← Hdt.out] at k1
      rw [← grow_cell hgr (hS _ x4.1).1 (hS _ x4.1).2, ← Hd2.out] at k2
      have c2 := hown.cell hw2
      rw [← Hu2.out] at c2
      by_cases hA : 4294967296 ≤ G
      · have dA : decide ((4294967296 : Int) ≤ (G : Int)) = true := by simp; omega
        have HG0 := hid (show 0 < G by omega)
        have HLT := hid (show U < G * D from Nat.lt_of_lt_of_le HU'.out (Nat.mul_le_mul_right _ hA))
        have e1 : IntKind.u64.wrap ((G : Int) - 1) = ((G - 1 : Nat) : Int) := by
          have : (G : Int) - 1 = ((G - 1 : Nat) : Int) := by omega
          rw [this]; exact IntWalk.u64_in _ (by omega)
        have e2 : IntKind.u64.wrap ((R : Int) + (dt : Int)) = (R : Int) + (dt : Int) := IntWalk.u64_in _ (by omega)
        have hq : Hid (U < (G - 1 + 1) * D) := by show U < (G - 1 + 1) * D; rw [show G - 1 + 1 = G by omega]; exact HLT.out
        have hgr2 : Hid ((G - 1) * dt + (R + dt) = un * 4294967296 + u1) := by
          show (G - 1) * dt + (R + dt) = un * 4294967296 + u1
          rw [← HG.out]
          have : G * dt = (G - 1) * dt + dt := by conv => lhs; rw [show G = G - 1 + 1 by omega, Nat.add_mul, Nat.one_mul]
          omega
        have hG1 : G - 1 ≤ 4294967296 := by omega
        by_cases hB : 4294967296 ≤ R + dt
        · have dB : decide ((4294967296 : Int) ≤ (R : Int) + (dt : Int)) = true := by simp; omega
          have hex : Hid ((G - 1) * D ≤ U + D) := HexitL.out (G - 1) (R + dt) hgr2.out (by
            have h1 : (G - 1) * d2 ≤ 4294967296 * 4294967296 := Nat.mul_le_mul hG1 (by omega)
            have h2 : 4294967296 * 4294967296 ≤ (R + dt) * 4294967296 := Nat.mul_le_mul_right _ hB
            omega) hG1
          have HB := hid hB
          clear hA hGl hB
          go_wp2
          go_quiet (fail)
          go_upto_region 7 with fail
          go_wp2
          go_meet
          case rel => exact ⟨G - 1, rfl, hG1, hq, hex, hown.drewN _, grow_drewN hgr _⟩
        have dB : decide ((4294967296 : Int) ≤ (R : Int) + (dt : Int)) = false := by simp; omega
        have HB := hid hB
        have hRd : R + dt < 4294967296 := by omega
        have HRd := hid hRd
        clear hA hGl hB hRd
        go_wp2
        go_quiet (fail)
        go_upto_region 7 with fail
        go_wp2
        go_roundw
        case rel => exact ⟨G - 1, R + dt, rfl, by go_num, hgr2, HRd.out, by have := hG1; omega, hq, hown.drewN _, grow_drewN hgr _⟩
        case measure => have := HG0.out; simp [intOf]; omega
      have dA : decide ((4294967296 : Int) ≤ (G : Int)) = false := by simp; omega
      have hGl' : G < 4294967296 := by omega
      have hmb := mul_bd hGl' l4
      have e3 : IntKind.u64.wrap ((G : Int) * (d2 : Int)) = (G : Int) * (d2 : Int) := IntWalk.u64_in _ (by rw [← Int.natCast_mul]; omega)
      have o2 := or32_add R u2 hR l2
      by_cases hC : R * 4294967296 + u2 < G * d2
      · have dC : decide ((R : Int) * 4294967296 + (u2 : Int) < (G : Int) * (d2 : Int)) = true := by rw [← Int.natCast_mul]; simp; omega
        have HG0 := hid (show 0 < G by rcases Nat.eq_zero_or_pos G with h | h; · subst h; omega
                                       exact h)
        have HLT := hid (HdecL.out G R HG.out hC)
        have HG00 := HG0.out
        have e1 : IntKind.u64.wrap ((G : Int) - 1) = ((G - 1 : Nat) : Int) := by
          have : (G : Int) - 1 = ((G - 1 : Nat) : Int) := by omega
          rw [this]; exact IntWalk.u64_in _ (by omega)
        have e2 : IntKind.u64.wrap ((R : Int) + (dt : Int)) = (R : Int) + (dt : Int) := IntWalk.u64_in _ (by omega)
        have hq : Hid (U < (G - 1 + 1) * D) := by show U < (G - 1 + 1) * D; rw [show G - 1 + 1 = G by omega]; exact HLT.out
        have hgr2 : Hid ((G - 1) * dt + (R + dt) = un * 4294967296 + u1) := by
          show (G - 1) * dt + (R + dt) = un * 4294967296 + u1
          rw [← HG.out]
          have : G * dt = (G - 1) * dt + dt := by conv => lhs; rw [show G = G - 1 + 1 by omega, Nat.add_mul, Nat.one_mul]
          omega
        have hG1 : G - 1 ≤ 4294967296 := by omega
        by_cases hB : 4294967296 ≤ R + dt
        · have dB : decide ((4294967296 : Int) ≤ (R : Int) + (dt : Int)) = true := by simp; omega
          have hex : Hid ((G - 1) * D ≤ U + D) := HexitL.out (G - 1) (R + dt) hgr2.out (by
            have h1 : (G - 1) * d2 ≤ 4294967296 * 4294967296 := Nat.mul_le_mul hG1 (by omega)
            have h2 : 4294967296 * 4294967296 ≤ (R + dt) * 4294967296 := Nat.mul_le_mul_right _ hB
            omega) hG1
          have HB := hid hB
          clear hA hGl hB hmb hC hGl'
          go_wp2
          go_quiet (fail)
          go_upto_region 7 with fail
          go_wp2
          go_meet
          case rel => exact ⟨G - 1, rfl, hG1, hq, hex, hown.drewN _, grow_drewN hgr _⟩
        have dB : decide ((4294967296 : Int) ≤ (R : Int) + (dt : Int)) = false := by simp; omega
        have HB := hid hB
        have hRd : R + dt < 4294967296 := by omega
        have HRd := hid hRd
        clear hA hGl hB hRd hmb hC hGl'
        go_wp2
        go_quiet (fail)
        go_upto_region 7 with fail
        go_wp2
        go_roundw
        case rel => exact ⟨G - 1, R + dt, rfl, by go_num, hgr2, HRd.out, by have := hG1; omega, hq, hown.drewN _, grow_drewN hgr _⟩
        case measure => have := HG0.out; simp [intOf]; omega
      have dC : decide ((R : Int) * 4294967296 + (u2 : Int) < (G : Int) * (d2 : Int)) = false := by rw [← Int.natCast_mul]; simp; omega
      have hex : Hid (G * D ≤ U + D) := HexitL.out G R HG.out (by omega) (by omega)
      have hG1 : G ≤ 4294967296 := by omega
      have HG1 := hid hG1
      clear hA hGl hC hmb hGl' hG1
      go_wp2
      go_quiet (fail)
      go_wp2
      go_meet
      case rel => exact ⟨G, rfl, HG1.out, HGu, hex, hown.drewN _, grow_drewN hgr _⟩
  case rest =>
    obtain ⟨G, rfl, hG, HGu, HGe, hownc, hgrc⟩ := hcut
    clear c0 c1 c2 k1 k2 q1 q2 o1
    have H2 := hid (knuth_two hDpos HGu.out HGe.out)
    go_wp2
    go_loopw [9, 10, 11, 12, 13, 84] (fun c b _ _ _ i wr => ∃ (k c' b' : Nat) (o' : List Nat), k ≤ n ∧ i = .int .i64 k ∧ c = .int .u64 c' ∧ c' < 4294967296 ∧ b = .int .u32 b' ∧ b' ≤ 1 ∧ OwnL wr g N o' ∧ w.grownBy wr (some g) ∧ Hid (∀ j, (j < off ∨ off + k ≤ j) → o'.getD j 0 = o.getD j 0) ∧
      Hid (limbsVal ((o'.drop off).take k) + G * limbsVal (ds.take k) = limbsVal ((o.drop off).take k) + 4294967296 ^ k * (b' + c'))) (fun _ _ _ _ _ i _ => n - (intOf i).toNat)
    case atStart => exact ⟨0, 0, 0, o, by omega, rfl, rfl, by omega, rfl, by omega, hownc, hgrc, fun j _ => rfl, by simp [Hid, limbsVal]⟩
    case round =>
      obtain ⟨k, c', b', o', hk, rfl, rfl, hc', rfl, hb', hown', hgr, HO, HE⟩ := hrel
      have hol' := hown'.1
      by_cases hlt : k < n
      · as_aux_lemma =>
          have hlt' : k < ds.length := by have := Hdl.out; omega
          obtain ⟨f0, f1⟩ := x4.u32 hlt'
          rw [← grow_cell hgr (hS _ x4.1).1 (hS _ x4.1).2] at f0
          have HT := hid (limbsVal_take_succ ds k hlt')
          obtain ⟨v, hv⟩ : ∃ v, v = ds[k] := ⟨_, rfl⟩
          rw [← hv] at f0 f1 HT
          clear hv
          have hko : off + k < o'.length := by omega
          have c1 := hown'.cell hko
          have c2 := hown'.frozen (off + k)
          obtain ⟨u, hu⟩ : ∃ u, u = o'[off + k] := ⟨_, rfl⟩
          have hu' : u < 4294967296 := by rw [hu]; exact hown'.2.1 _ (List.getElem_mem hko)
          have HUo := hid (show o.getD (off + k) 0 = u by rw [← HO.out (off + k) (.inr (by omega)), hu]; simp [List.getD, hko])
          rw [← hu] at c1
          clear hu
          have HTk := hid (fun d => take_set_snoc (o := o') (off := off) (k := k) (d := d) hko)
          obtain ⟨lo, hlo⟩ : ∃ t : Nat, t = (G * v + c') % 4294967296 := ⟨_, rfl⟩
          obtain ⟨hi, hhi⟩ : ∃ t : Nat, t = (G * v + c') / 4294967296 := ⟨_, rfl⟩
          have hmb : G * v ≤ 4294967296 * 4294967295 := Nat.mul_le_mul hG (by omega)
          have hlh : lo + 4294967296 * hi = G * v + c' := by omega
          have hlo' : lo < 4294967296 := by omega
          have hhi' : hi < 4294967296 := by omega
          have e1 : IntKind.u64.wrap ((G : Int) * (v : Int)) = (G : Int) * (v : Int) := IntWalk.u64_in _ (by rw [← Int.natCast_mul]; omega)
          have e2 : IntKind.u64.wrap ((G : Int) * (v : Int) + (c' : Int)) = (G : Int) * (v : Int) + (c' : Int) := IntWalk.u64_in _ (by rw [← Int.natCast_mul]; omega)
          have elo : ((G : Int) * (v : Int) + (c' : Int)) % 4294967296 = (lo : Int) := by rw [← Int.natCast_mul]; omega
          have ehi : ((G : Int) * (v : Int) + (c' : Int)) / 4294967296 = (hi : Int) := by rw [← Int.natCast_mul]; omega
          obtain ⟨d, hd⟩ : ∃ d : Nat, (d : Int) = ((u : Int) - (lo : Int) - (b' : Int)) % 4294967296 := ⟨(((u : Int) - (lo : Int) - (b' : Int)) % 4294967296).toNat, by omega⟩
          obtain ⟨e, he⟩ : ∃ e : Nat, (e : Int) = borrowZ (u : Int) (lo : Int) (b' : Int) := ⟨(borrowZ (u : Int) (lo : Int) (b' : Int)).toNat, by have := borrowZ_bd (u : Int) (lo : Int) (b' : Int); omega⟩
          have hde : d + lo + b' = u + 4294967296 * e := by unfold borrowZ at he; split at he <;> omega
          have hd1' : d < 4294967296 := by omega
          have he1 : e ≤ 1 := by have := borrowZ_bd (u : Int) (lo : Int) (b' : Int); omega
          have HA := hid (fun W => sub32_any (u : Int) (lo : Int) (b' : Int) W (by omega) (by omega) (by omega) (by omega) (by omega) (by omega))
          rw [← hd, ← he] at HA
          have HDE := hid hde
          have HLH := hid hlh
          clear hd he hde hlh hmb hlo hhi
          go_wp2_with fail
          refine Calls.mono (HA.out _) ?_
          rintro e' w3 ⟨rfl, rfl⟩
          clear HA e1 e2 elo
          go_wp2
          go_roundw
          case rel =>
            refine ⟨k + 1, hi, e, o'.set (off + k) d, by omega, by go_num, rfl, hhi', rfl, he1, hown'.set hko hd1', grow_set hgr _ _, fun j hj => ?_, ?_⟩
            · rw [← HO.out j (by omega)]
              simp [List.getD, List.getElem?_set, show ¬ off + k = j by omega]
            show limbsVal (((o'.set (off + k) d).drop off).take (k + 1)) + G * limbsVal (ds.take (k + 1)) = limbsVal ((o.drop off).take (k + 1)) + 4294967296 ^ (k + 1) * (e + hi)
            have h1 := HE.out
            rw [HTk.out, limbsVal_snoc, take_len (by omega), HT.out, take_succ_off (by have := Hol.out; omega), limbsVal_snoc, take_len (by have := Hol.out; omega), HUo.out, Nat.mul_add, Nat.pow_succ, Nat.mul_assoc, Nat.mul_left_comm G]
            have h2 : 4294967296 ^ k * d + 4294967296 ^ k * (G * v) + 4294967296 ^ k * (b' + c') = 4294967296 ^ k * u + 4294967296 ^ k * (4294967296 * (e + hi)) := by
              rw [← Nat.mul_add, ← Nat.mul_add, ← Nat.mul_add]
              congr 1
              have := HDE.out
              have := HLH.out
              omega
            omega
          case measure => simp [intOf]; omega
      have hkn : k = n := by omega
      have hko : off + n < o'.length := by omega
      have c1 := hown'.cell hko
      have c2 := hown'.frozen (off + n)
      obtain ⟨u, hu⟩ : ∃ u, u = o'[off + n] := ⟨_, rfl⟩
      have hu' : u < 4294967296 := by rw [hu]; exact hown'.2.1 _ (List.getElem_mem hko)
      have huo : o.getD (off + n) 0 = u := by rw [← HO.out (off + n) (.inr (by omega)), hu]; simp [List.getD, hko]
      rw [← hu] at c1
      clear hu
      obtain ⟨d, hd⟩ : ∃ d : Nat, (d : Int) = ((u : Int) - (c' : Int) - (b' : Int)) % 4294967296 := ⟨(((u : Int) - (c' : Int) - (b' : Int)) % 4294967296).toNat, by omega⟩
      obtain ⟨e, he⟩ : ∃ e : Nat, (e : Int) = borrowZ (u : Int) (c' : Int) (b' : Int) := ⟨(borrowZ (u : Int) (c' : Int) (b' : Int)).toNat, by have := borrowZ_bd (u : Int) (c' : Int) (b' : Int); omega⟩
      have hde : d + c' + b' = u + 4294967296 * e := by unfold borrowZ at he; split at he <;> omega
      have hd1' : d < 4294967296 := by omega
      have he1 : e ≤ 1 := by have := borrowZ_bd (u : Int) (c' : Int) (b' : Int); omega
      have HA := hid (fun W => sub32_any (u : Int) (c' : Int) (b' : Int) W (by omega) (by omega) (by omega) (by omega) (by omega) (by omega))
      rw [← hd, ← he] at HA
      have hds : ds.take k = ds := List.take_of_length_le (by have := Hdl.out; omega)
      have hfin : limbsVal (((o'.set (off + n) d).drop off).take (n + 1)) + G * D = U + 4294967296 ^ (n + 1) * e := by
        have h1 := HE.out
        rw [hds, ← HD.out, hkn] at h1
        rw [take_set_snoc hko, limbsVal_snoc, take_len (by omega), HUU.out, take_succ_off (by have := Hol.out; omega), limbsVal_snoc, take_len (by have := Hol.out; omega), huo, Nat.pow_succ, Nat.mul_assoc]
        have h2 : 4294967296 ^ n * d + 4294967296 ^ n * (b' + c') = 4294967296 ^ n * u + 4294967296 ^ n * (4294967296 * e) := by
          rw [← Nat.mul_add, ← Nat.mul_add]
          congr 1
          omega
        omega
      have hout : ∀ j, j < off ∨ off + n < j → (o'.set (off + n) d).getD j 0 = o.getD j 0 := fun j hj => by
        rw [← HO.out j (by omega)]
        simp [List.getD, List.getElem?_set, show ¬ off + n = j by omega]
      have hPlt : limbsVal (((o'.set (off + n) d).drop off).take (n + 1)) < 4294967296 ^ (n + 1) := by
        have hlen : (((o'.set (off + n) d).drop off).take (n + 1)).length = n + 1 := take_len (by simp; omega)
        have := limbsVal_lt (xs := ((o'.set (off + n) d).drop off).take (n + 1)) (fun x hx => (hown'.set hko hd1').2.1 x (List.mem_of_mem_drop (List.mem_of_mem_take hx)))
        rwa [hlen] at this
      have HF := hid hfin
      have HOut := hid hout
      have HP := hid hPlt
      have hown2 := hown'.set hko hd1'
      have hgr2 := grow_set hgr (off + n) (.int .u32 d)
      obtain ⟨o2, ho2⟩ : ∃ o2, o2 = o'.set (off + n) d := ⟨_, rfl⟩
      have hl2' : o2.length = N := by rw [ho2]; simp [hol']
      have HL2 := hid hl2'
      clear hl2'
      rw [← ho2] at HF HOut HP hown2
      clear hd he hde hfin hout hPlt hds huo hkn ho2 hown'
      have hq32 : U / D < 4294967296 := Nat.div_lt_of_lt_mul (by rw [Nat.mul_comm]; exact HU'.out)
      by_cases hez : e = 0
      · as_aux_lemma =>
          subst hez
          have h0 := HF.out
          rw [Nat.mul_zero, Nat.add_zero] at h0
          have HQ := hid (knuth_end0 hDpos H2.out h0)
          clear h0
          go_wp2_with fail
          refine Calls.mono (HA.out _) ?_
          rintro e' w3 ⟨rfl, rfl⟩
          clear HA
          go_wp2
          go_ret
          refine ⟨o2, ?_, hown2, HOut.out, HQ.out.2, hgr2⟩
          exact ret_int (by have := HQ.out.1; omega)
      as_aux_lemma =>
        have he1' : e = 1 := by omega
        subst he1'
        have h0 := HF.out
        rw [Nat.mul_one] at h0
        have HQ := hid (knuth_end1 hDpos H2.out HP.out h0)
        clear h0
        go_wp2_with fail
        refine Calls.mono (HA.out _) ?_
        rintro e' w3 ⟨rfl, rfl⟩
        clear HA hez
        go_wp2
        clear c1 c2 HO HE hgr
        go_loopw [14, 15, 16, 132] (fun c _ _ i wr => ∃ (k c' : Nat) (o' : List Nat), k ≤ n ∧ i = .int .i64 k ∧ c = .int .u32 c' ∧ c' ≤ 1 ∧ OwnL wr g N o' ∧ w.grownBy wr (some g) ∧ Hid (∀ j, (j < off ∨ off + k ≤ j) → o'.getD j 0 = o2.getD j 0) ∧
          Hid (limbsVal ((o'.drop off).take k) + 4294967296 ^ k * c' = limbsVal ((o2.drop off).take k) + limbsVal (ds.take k))) (fun _ _ _ i _ => n - (intOf i).toNat)
        case atStart => exact ⟨0, 0, o2, by omega, rfl, rfl, by omega, hown2, hgr2, fun j _ => rfl, by simp [Hid, limbsVal]⟩
        case round =>
          clear hown2 hgr2
          obtain ⟨k, c', o3, hk, rfl, rfl, hc', hown3, hgr3, HO3, HE3⟩ := hrel
          have hol3 := hown3.1
          by_cases hlt : k < n
          · as_aux_lemma =>
              have hlt' : k < ds.length := by have := Hdl.out; omega
              obtain ⟨f0, f1⟩ := x4.u32 hlt'
              rw [← grow_cell hgr3 (hS _ x4.1).1 (hS _ x4.1).2] at f0
              have HT := hid (limbsVal_take_succ ds k hlt')
              obtain ⟨v, hv⟩ : ∃ v, v = ds[k] := ⟨_, rfl⟩
              rw [← hv] at f0 f1 HT
              clear hv
              have hko : off + k < o3.length := by omega
              have c1 := hown3.cell hko
              have c2 := hown3.frozen (off + k)
              obtain ⟨x, hx⟩ : ∃ x, x = o3[off + k] := ⟨_, rfl⟩
              have hx' : x < 4294967296 := by rw [hx]; exact hown3.2.1 _ (List.getElem_mem hko)
              have HXo := hid (show o2.getD (off + k) 0 = x by rw [← HO3.out (off + k) (.inr (by omega)), hx]; simp [List.getD, hko])
              rw [← hx] at c1
              clear hx
              have HTk := hid (fun d => take_set_snoc (o := o3) (off := off) (k := k) (d := d) hko)
              obtain ⟨d, hd⟩ : ∃ d : Nat, (d : Int) = ((x : Int) + (v : Int) + (c' : Int)) % 4294967296 := ⟨((x + v + c') % 4294967296), by omega⟩
              obtain ⟨e, he⟩ : ∃ e : Nat, (e : Int) = ((x : Int) + (v : Int) + (c' : Int)) / 4294967296 := ⟨((x + v + c') / 4294967296), by omega⟩
              have hde : d + 4294967296 * e = x + v + c' := by omega
              have hd1' : d < 4294967296 := by omega
              have he1 : e ≤ 1 := by omega
              have HA := hid (fun W => add32_any (x : Int) (v : Int) (c' : Int) W (by omega) (by omega) (by omega) (by omega) (by omega) (by omega))
              rw [← hd, ← he] at HA
              have HDE := hid hde
              clear hd he hde
              go_wp2_with fail
              refine Calls.mono (HA.out _) ?_
              rintro e' w3 ⟨rfl, rfl⟩
              clear HA
              go_wp2
              go_roundw
              case rel =>
                have hl2 : o2.length = o3.length := by
                  have := HP.out
                  exact HL2.out.trans hol3.symm
                refine ⟨k + 1, e, o3.set (off + k) d, by omega, by go_num, rfl, he1, hown3.set hko hd1', grow_set hgr3 _ _, fun j hj => ?_, ?_⟩
                · rw [← HO3.out j (by omega)]
                  simp [List.getD, List.getElem?_set, show ¬ off + k = j by omega]
                show limbsVal (((o3.set (off + k) d).drop off).take (k + 1)) + 4294967296 ^ (k + 1) * e = limbsVal ((o2.drop off).take (k + 1)) + limbsVal (ds.take (k + 1))
                have h1 := HE3.out
                rw [HTk.out, limbsVal_snoc, take_len (by omega), HT.out, take_succ_off (by omega), limbsVal_snoc, take_len (by omega), HXo.out, Nat.pow_succ, Nat.mul_assoc]
                have h2 : 4294967296 ^ k * d + 4294967296 ^ k * (4294967296 * e) = 4294967296 ^ k * x + 4294967296 ^ k * v + 4294967296 ^ k * c' := by
                  rw [← Nat.mul_add, HDE.out, Nat.mul_add, Nat.mul_add]
                omega
              case measure => simp [intOf]; omega
          as_aux_lemma =>
            have hkn : k = n := by omega
            have hl2 : o2.length = o3.length := HL2.out.trans hol3.symm
            have hko : off + n < o3.length := by omega
            have c1 := hown3.cell hko
            have c2 := hown3.frozen (off + n)
            obtain ⟨x, hx⟩ : ∃ x, x = o3[off + n] := ⟨_, rfl⟩
            have hx' : x < 4294967296 := by rw [hx]; exact hown3.2.1 _ (List.getElem_mem hko)
            have hxo : o2.getD (off + n) 0 = x := by rw [← HO3.out (off + n) (.inr (by omega)), hx]; simp [List.getD, hko]
            rw [← hx] at c1
            clear hx
            obtain ⟨d, hd⟩ : ∃ d : Nat, d = (x + c') % 4294967296 := ⟨_, rfl⟩
            obtain ⟨e, he⟩ : ∃ e : Nat, e = (x + c') / 4294967296 := ⟨_, rfl⟩
            have hde : d + 4294967296 * e = x + c' := by omega
            have hd1' : d < 4294967296 := by omega
            have hdi : ((x : Int) + (c' : Int)) % 4294967296 = (d : Int) := by omega
            have hds : ds.take k = ds := List.take_of_length_le (by have := Hdl.out; omega)
            have hDlt : D < 4294967296 ^ n := by
              have := limbsVal_lt hdlt.out
              rw [← HD.out, Hdl.out] at this
              exact this
            have hfin : limbsVal (((o3.set (off + n) d).drop off).take (n + 1)) = U % D := by
              have h1 := HE3.out
              rw [hds, ← HD.out, hkn] at h1
              have h3 := HQ.out.2
              rw [take_succ_off (by omega), limbsVal_snoc, take_len (by omega), hxo] at h3
              have hlt3 : limbsVal (((o3.set (off + n) d).drop off).take (n + 1)) < 4294967296 ^ (n + 1) := by
                have hlen : (((o3.set (off + n) d).drop off).take (n + 1)).length = n + 1 := take_len (by simp; omega)
                have := limbsVal_lt (xs := ((o3.set (off + n) d).drop off).take (n + 1)) (fun y hy => (hown3.set hko hd1').2.1 y (List.mem_of_mem_drop (List.mem_of_mem_take hy)))
                rwa [hlen] at this
              rw [take_set_snoc hko, limbsVal_snoc, take_len (by omega)] at hlt3 ⊢
              have h2 : 4294967296 ^ n * d + 4294967296 ^ n * (4294967296 * e) = 4294967296 ^ n * x + 4294967296 ^ n * c' := by
                rw [← Nat.mul_add, hde, Nat.mul_add]
              have h4 : U % D < 4294967296 ^ n := Nat.lt_trans (Nat.mod_lt _ hDpos) hDlt
              have h5 : 4294967296 ^ (n + 1) = 4294967296 ^ n * 4294967296 := by rw [Nat.pow_succ]
              have h6 : 4294967296 ^ n * (4294967296 * e) = 4294967296 ^ (n + 1) * e := by rw [h5, Nat.mul_assoc]
              have he01 : e = 0 ∨ e = 1 := by omega
              rcases he01 with h | h
              · subst h; omega
              subst h; omega
            have hout : ∀ j, j < off ∨ off + n < j → (o3.set (off + n) d).getD j 0 = o.getD j 0 := fun j hj => by
              rw [← HOut.out j hj, ← HO3.out j (by omega)]
              simp [List.getD, List.getElem?_set, show ¬ off + n = j by omega]
            have HF3 := hid hfin
            have HOut3 := hid hout
            have e1 : IntKind.u64.wrap ((G : Int) - 1) = ((G - 1 : Nat) : Int) := by
              have h0 : 1 ≤ G := by rw [HQ.out.1]; exact Nat.le_add_left 1 _
              have : (G : Int) - 1 = ((G - 1 : Nat) : Int) := by omega
              rw [this]; exact IntWalk.u64_in _ (by omega)
            have hR : Hid (((G - 1 : Nat) : Int) = ((U / D : Nat) : Int)) := by
              show ((G - 1 : Nat) : Int) = ((U / D : Nat) : Int)
              have : G - 1 = U / D := by rw [HQ.out.1]; rfl
              rw [this]
            clear he hde hfin hout hds hxo hkn hDlt hd hl2
            go_wp2
            go_ret
            exact ⟨o3.set (off + n) d, ret_int hR.out, hown3.set hko hd1', HOut3.out, HF3.out, grow_set hgr3 _ _⟩
end Go.Proofs.YtokmkopihhnggaaDoor
end
