/- natural: Multiply: walked. -/
import Derived.Test.YtogeijhepjcbgaaGreatDoorNat5M
set_option linter.unusedVariables false
set_option linter.unusedSimpArgs false
set_option linter.defProp false
set_option linter.unnecessarySimpa false
section
/- natural: Multiply: walked. -/
namespace Go.Proofs.YtogeijhepjcbgaaGreatDoor
open Go.RowKit
theorem limbsVal_set : ∀ (o : List Nat) (p d : Nat) (h : p < o.length), limbsVal (o.set p d) + 4294967296 ^ p * o[p] = limbsVal o + 4294967296 ^ p * d
  | x :: r, 0, d, _ => by simp [limbsVal]; omega
  | x :: r, p + 1, d, h => by
    have ih := limbsVal_set r p d (by simpa using h)
    simp only [List.set_cons_succ, limbsVal, List.getElem_cons_succ, Nat.pow_succ]
    rw [Nat.mul_comm (4294967296 ^ p) 4294967296, Nat.mul_assoc, Nat.mul_assoc]
    omega
theorem upd_set {f : Nat → Value} {o : List Nat} {p : Nat} (hp : p < o.length) (h : ∀ j, f j = .int .u32 ((o.getD j 0 : Nat) : Int)) (d : Nat) : ∀ j, upd f p (.int .u32 (d : Int)) j = .int .u32 (((o.set p d).getD j 0 : Nat) : Int) := by
  intro j
  unfold upd
  by_cases hj : j = p
  · rw [if_pos hj, hj]; simp [List.getD, hp]
  · rw [if_neg hj, h j]
    simp [List.getD, List.getElem?_set, show ¬ p = j by omega]
theorem mul_bd {u v : Nat} (hu : u < 4294967296) (hv : v < 4294967296) : u * v ≤ 18446744065119617025 := by
  have := Nat.mul_le_mul (Nat.le_of_lt_succ hu : u ≤ 4294967295) (Nat.le_of_lt_succ hv : v ≤ 4294967295)
  exact this
end Go.Proofs.YtogeijhepjcbgaaGreatDoor
end
section
/- natural: divideSmall: walked. -/
namespace Go.Proofs.YtogeijhepjcbgaaGreatDoor
open Go.RowKit
theorem or32_add (r x : Nat) (hr : r < 4294967296) (hx : x < 4294967296) : bits .or .u64 ((r : Int) * 4294967296) (x : Int) = ((r * 4294967296 + x : Nat) : Int) := by
  have e : (r : Int) * 4294967296 = ((r * 2 ^ 32 : Nat) : Int) := by rw [Int.natCast_mul]; rfl
  rw [e, u64_or_nat _ _ (by omega) (by omega), Nat.or_comm, or_add x r 32 (by omega)]
set_option maxRecDepth 100000 in
set_option maxHeartbeats 1000000 in
theorem divideSmall_any (S : Nat → Prop) (u : Value) (xs : List Nat) (d : Nat) (w : World) (hS : ∀ b, S b → b < w.heap.size) (hl : xs.length ≤ 1000000000000) (hd0 : 0 < d) (hd : d < 4294967296) (hu : rSlice 1 rU32 w S [u] xs) :
    Calls Tryz.prog 150 #[u, .int .u32 d] w fun e w' => ∃ r, e = .returned (.tuple #[r, .int .u32 ((limbsVal xs % d : Nat) : Int)]) ∧ rSlice 1 rU32 w' (LT w'.heap.size) [r] (limbsOf (limbsVal xs / d)) ∧ Below w.heap.size w w' := by
  have hxlt := hid (u32s_lt hu)
  obtain ⟨xa, xc, rfl, x1, x2, x3, x4⟩ := u32s_open hu
  have hn := len_le x1 x2
  have hmk := fun (w : World) => make_one (P := Tryz.prog) Tryz.underlying177 Tryz.infoU32 rfl w xs.length (by omega) (by omega)
  go_enter Tryz.func150, Tryz.ntmps150
  go_wp2
  clear hmk
  go_loopw [7, 8, 9] (fun r i _ wr => ∃ (k r' : Nat) (o : List Nat) (f : Nat → Value), k ≤ xs.length ∧ i = .int .i64 ((k : Int) - 1) ∧ r = .int .u64 (r' : Int) ∧ r' < d ∧ Below w.heap.size w wr ∧ w.heap.size < wr.heap.size ∧ Own wr w.heap.size 157 xs.length f ∧ Hid (∀ j, f j = .int .u32 ((o.getD j 0 : Nat) : Int)) ∧ Hid (o.length = xs.length) ∧ Hid (∀ x ∈ o, x < 4294967296) ∧
      Hid (limbsVal (xs.drop k) = limbsVal (o.drop k) * d + r')) (fun _ i _ _ => (intOf i + 1).toNat)
  case atStart =>
    refine ⟨xs.length, 0, List.replicate xs.length 0, _, Nat.le_refl _, rfl, rfl, hd0, (Below.refl _ _).alloc (Nat.le_refl _) _, by simp, Own.new _ _ _ _, fun j => ?_, by simp [Hid], fun x hx => ?_, ?_⟩
    · simp [List.getD, List.getElem?_replicate]; split <;> rfl
    · have := List.eq_of_mem_replicate hx; omega
    · show limbsVal (xs.drop xs.length) = _
      rw [List.drop_length, List.drop_of_length_le (by simp)]; simp [limbsVal]
  case round =>
    obtain ⟨k, r', o, f, hk, rfl, rfl, hr', hbw, hsz, hown, HF, HL, HD, HV⟩ := hrel
    cases k with
    | zero =>
      have hs := HV.out
      rw [List.drop_zero, List.drop_zero] at hs
      have hq : limbsVal o = limbsVal xs / d := by rw [hs, Nat.mul_comm, Nat.mul_add_div hd0, Nat.div_eq_of_lt hr']; rfl
      have hrm : limbsVal xs % d = r' := by rw [hs, Nat.mul_comm, Nat.mul_add_mod, Nat.mod_eq_of_lt hr']
      have hR := own_limbs hown HF.out HL.out (by omega) HD.out
      have HT := hid (trim_any _ _ _ _ hR)
      rw [hq] at HT
      have HRM := hid hrm
      clear hs hq hR hrm
      have hr32 : r' < 4294967296 := by omega
      go_wp2_with fail
      refine Calls.mono HT.out ?_
      rintro e' w3 ⟨r, rfl, rfl, hr⟩
      go_wp2
      go_ret2
      exact ⟨r, by rw [HRM.out]; rfl, hr, hbw⟩
    | succ k =>
      rw [show (((k + 1 : Nat) : Int) - 1) = (k : Int) by omega]
      have hlt : k < xs.length := by omega
      rcases x4 with rfl | ⟨b1, off1, rfl, x4⟩
      · simp at hlt
      obtain ⟨g0, g1⟩ := x4.u32 hlt
      rw [← hbw.cell (p := ⟨b1, off1 + k, none⟩) (hS _ x4.1)] at g0
      have c1 := hown.cell hlt
      rw [HF.out k] at c1
      have c2 := hown.frozen k
      have hr32 : r' < 4294967296 := by omega
      obtain ⟨x, hx⟩ : ∃ x, x = xs[k] := ⟨_, rfl⟩
      have HX := hid (show limbsVal (xs.drop k) = x + 4294967296 * limbsVal (xs.drop (k + 1)) by rw [hx, List.drop_eq_getElem_cons hlt]; rfl)
      rw [← hx] at g0 g1
      clear hx
      have o1 := or32_add r' x hr32 g1
      obtain ⟨q, hq⟩ : ∃ q : Nat, q = (r' * 4294967296 + x) / d := ⟨_, rfl⟩
      obtain ⟨r2, hr2⟩ : ∃ r2 : Nat, r2 = (r' * 4294967296 + x) % d := ⟨_, rfl⟩
      have hqr : d * q + r2 = r' * 4294967296 + x := by rw [hq, hr2]; exact Nat.div_add_mod _ _
      have hr2d : r2 < d := by rw [hr2]; exact Nat.mod_lt _ hd0
      have hq32 : q < 4294967296 := by
        rw [hq]
        apply Nat.div_lt_of_lt_mul
        have := Nat.mul_le_mul_right 4294967296 (show r' + 1 ≤ d from hr')
        rw [Nat.add_mul] at this
        omega
      have Q1 := hid (show (((r' : Int) * 4294967296 + (x : Int)) / (d : Int)) % 4294967296 = (q : Int) by
        have : ((r' : Int) * 4294967296 + (x : Int)) / (d : Int) = (q : Int) := by rw [hq, Int.natCast_ediv, Int.natCast_add, Int.natCast_mul]; rfl
        rw [this]; omega)
      have Q2 := hid (show (((r' : Int) * 4294967296 + (x : Int)) % (d : Int)) = (r2 : Int) by rw [hr2, Int.natCast_emod, Int.natCast_add, Int.natCast_mul]; rfl)
      have HQR := hid hqr
      clear hq hr2 hqr
      go_wp2
      clear o1
      go_roundw
      case rel =>
        rw [Q1.out, Q2.out]
        have hko : k < o.length := by rw [HL.out]; exact hlt
        refine ⟨k, r2, o.set k q, upd f k (.int .u32 q), by omega, rfl, rfl, hr2d, hbw.setCell (Nat.le_refl _) _, by simpa using hsz, hown.set _ _, upd_set hko HF.out q, ?_, ?_, ?_⟩
        · show (o.set k q).length = _; simp [HL.out]
        · intro u hu
          rcases List.mem_or_eq_of_mem_set hu with h | h
          · exact HD.out u h
          · omega
        · show limbsVal (xs.drop k) = limbsVal ((o.set k q).drop k) * d + r2
          have e : (o.set k q).drop k = q :: o.drop (k + 1) := by
            rw [List.drop_eq_getElem_cons (by simpa using hko), List.drop_set_of_lt (by omega)]
            simp
          rw [HX.out, HV.out, e]
          show _ = (q + 4294967296 * limbsVal (o.drop (k + 1))) * d + r2
          have h1 := HQR.out
          rw [Nat.add_mul, Nat.mul_add, Nat.mul_assoc 4294967296, Nat.mul_comm q d]
          omega
      case measure => simp [intOf]
end Go.Proofs.YtogeijhepjcbgaaGreatDoor
end
section
/- insolvencyref1: order, short: walked. -/
namespace Go.Proofs.YtogeijhepjcbgaaGreatDoor
open Go.RowKit
set_option maxRecDepth 100000 in
set_option maxHeartbeats 1000000 in
theorem order_any (S : Nat → Prop) (u v : Value) (x y : Nat) (w : World) (hS : ∀ b, S b → b < w.heap.size) (hu : rSlice 1 rU32 w S [u] (limbsOf x)) (hv : rSlice 1 rU32 w S [v] (limbsOf y)) :
    Calls Tryz.prog 98 #[u, v] w fun e w' => e = .returned (.int .i64 (natCmp x y)) ∧ Below w.heap.size w w' := by
  obtain ⟨a, cap, rfl, h1, h2, h3, h4⟩ := u32s_open hu
  obtain ⟨a', cap', rfl, h1', h2', h3', h4'⟩ := u32s_open hv
  have hn := len_le h1 h2
  have hn' := len_le h1' h2'
  rcases Nat.lt_trichotomy (limbsOf x).length (limbsOf y).length with hl | hl | hl
  · have hR := hid (natCmp_lt (limbs_len_lt hl))
    have hl' : ((limbsOf x).length != (limbsOf y).length) = true := by simp; omega
    have hl2 : ¬ (((limbsOf x).length : Int) = ((limbsOf y).length : Int)) := by omega
    go_enter Tryz.func98, Tryz.ntmps98
    go_wp2
    go_ret
    exact ⟨ret_int hR.out.symm, Below.refl _ _⟩
  · have HL := hid hl
    rw [← hl]
    clear hl
    go_enter Tryz.func98, Tryz.ntmps98
    go_wp2
    go_loopw [5] (fun i wr => ∃ k : Nat, k ≤ (limbsOf x).length ∧ i = .int .i64 ((k : Int) - 1) ∧ Below w.heap.size w wr ∧ Hid ((limbsOf x).drop k = (limbsOf y).drop k)) (fun i _ => (intOf i + 1).toNat)
    case atStart => exact ⟨_, Nat.le_refl _, rfl, Below.refl _ _, by show (limbsOf x).drop (limbsOf x).length = (limbsOf y).drop (limbsOf x).length; rw [List.drop_length, HL.out, List.drop_length]⟩
    case round =>
      obtain ⟨k, hk, rfl, hbel, HE⟩ := hrel
      cases k with
      | zero =>
        have hxy : x = y := by
          have := HE.out
          rw [List.drop_zero, List.drop_zero] at this
          have := congrArg limbsVal this
          rwa [limbsVal_limbsOf, limbsVal_limbsOf] at this
        have hR : Hid (natCmp x y = 0) := by subst hxy; exact natCmp_eq _
        clear hxy
        go_wp2
        go_ret
        exact ⟨ret_int hR.out.symm, hbel⟩
      | succ k =>
        rw [show (((k + 1 : Nat) : Int) - 1) = (k : Int) by omega]
        have hlt : k < (limbsOf x).length := by omega
        have hlt' : k < (limbsOf y).length := by have := HL.out; omega
        rcases h4 with h4 | ⟨b, off, rfl, h4⟩
        · rw [h4] at hlt; simp at hlt
        rcases h4' with h4' | ⟨b', off', rfl, h4'⟩
        · rw [h4'] at hlt'; simp at hlt'
        obtain ⟨g0, g1⟩ := h4.u32 hlt
        rw [← hbel.cell (p := ⟨b, off + k, none⟩) (hS _ h4.1)] at g0
        obtain ⟨f0, f1⟩ := h4'.u32 hlt'
        rw [← hbel.cell (p := ⟨b', off' + k, none⟩) (hS _ h4'.1)] at f0
        have HX := hid (limbsOf_lt x)
        have HY := hid (limbsOf_lt y)
        have HVX := hid (limbsVal_limbsOf x)
        have HVY := hid (limbsVal_limbsOf y)
        rcases Nat.lt_trichotomy (limbsOf x)[k] (limbsOf y)[k] with hc | hc | hc
        · have hR : Hid (natCmp x y = -1) := natCmp_lt (by rw [← HVX.out, ← HVY.out]; exact limbs_lt_of_top HX.out HL.out k hlt hlt' HE.out hc)
          have q1 : (((limbsOf x)[k] : Int) != ((limbsOf y)[k] : Int)) = true := by rw [bne_iff_ne]; omega
          have q1' : ((limbsOf x)[k] != (limbsOf y)[k]) = true := by rw [bne_iff_ne]; omega
          go_wp2
          go_quiet (fail)
          go_wp2
          go_quiet (fail)
          go_wp2
          go_ret
          exact ⟨ret_int hR.out.symm, (hbel.drewN _).drewN _⟩
        · have q1 : (((limbsOf x)[k] : Int) != ((limbsOf y)[k] : Int)) = false := by simp [hc]
          have q1' : ((limbsOf x)[k] != (limbsOf y)[k]) = false := by simp [hc]
          have HC := hid hc
          clear hc
          go_wp2
          go_quiet (fail)
          go_wp2
          go_roundw
          case rel => exact ⟨k, by omega, rfl, hbel.drewN _, by show (limbsOf x).drop k = (limbsOf y).drop k; rw [List.drop_eq_getElem_cons hlt, List.drop_eq_getElem_cons hlt', HC.out, HE.out]⟩
          case measure => simp [intOf]
        · have hR : Hid (natCmp x y = 1) := natCmp_gt (by rw [← HVX.out, ← HVY.out]; exact limbs_lt_of_top HY.out HL.out.symm k hlt' hlt HE.out.symm hc)
          have q1 : (((limbsOf x)[k] : Int) != ((limbsOf y)[k] : Int)) = true := by rw [bne_iff_ne]; omega
          have q1' : ((limbsOf x)[k] != (limbsOf y)[k]) = true := by rw [bne_iff_ne]; omega
          have q2 : ¬ (limbsOf x)[k] < (limbsOf y)[k] := by omega
          go_wp2
          go_quiet (fail)
          go_wp2
          go_quiet (fail)
          go_wp2
          go_ret
          exact ⟨ret_int hR.out.symm, (hbel.drewN _).drewN _⟩
  · have hR := hid (natCmp_gt (limbs_len_lt hl))
    have hl' : ((limbsOf x).length != (limbsOf y).length) = true := by simp; omega
    have hl2 : ¬ (((limbsOf x).length : Int) = ((limbsOf y).length : Int)) := by omega
    go_enter Tryz.func98, Tryz.ntmps98
    go_wp2
    go_ret
    exact ⟨ret_int hR.out.symm, Below.refl _ _⟩
set_option maxRecDepth 100000 in
set_option maxHeartbeats 1000000 in
theorem short_any (S : Nat → Prop) (u : Value) (xs : List Nat) (d : Nat) (w : World) (hS : ∀ b, S b → b < w.heap.size) (hl : xs.length ≤ 1000000000000) (hd0 : 0 < d) (hd : d < 4294967296) (hu : rSlice 1 rU32 w S [u] xs) :
    Calls Tryz.prog 142 #[u, .int .u32 d] w fun e w' => ∃ r, e = .returned (.tuple #[r, .int .u32 ((limbsVal xs % d : Nat) : Int)]) ∧ rSlice 1 rU32 w' (LT w'.heap.size) [r] (limbsOf (limbsVal xs / d)) ∧ Below w.heap.size w w' := by
  have hxlt := hid (u32s_lt hu)
  obtain ⟨xa, xc, rfl, x1, x2, x3, x4⟩ := u32s_open hu
  have hn := len_le x1 x2
  have hmk := fun (w : World) => make_one (P := Tryz.prog) Tryz.underlying150 Tryz.infoU32 rfl w xs.length (by omega) (by omega)
  go_enter Tryz.func142, Tryz.ntmps142
  go_wp2
  clear hmk
  go_loopw [7, 8] (fun r i wr => ∃ (k r' : Nat) (o : List Nat) (f : Nat → Value), k ≤ xs.length ∧ i = .int .i64 ((k : Int) - 1) ∧ r = .int .u64 (r' : Int) ∧ r' < d ∧ Below w.heap.size w wr ∧ w.heap.size < wr.heap.size ∧ Own wr w.heap.size 157 xs.length f ∧ Hid (∀ j, f j = .int .u32 ((o.getD j 0 : Nat) : Int)) ∧ Hid (o.length = xs.length) ∧ Hid (∀ x ∈ o, x < 4294967296) ∧
      Hid (limbsVal (xs.drop k) = limbsVal (o.drop k) * d + r')) (fun _ i _ => (intOf i + 1).toNat)
  case atStart =>
    refine ⟨xs.length, 0, List.replicate xs.length 0, _, Nat.le_refl _, rfl, rfl, hd0, (Below.refl _ _).alloc (Nat.le_refl _) _, by simp, Own.new _ _ _ _, fun j => ?_, by simp [Hid], fun x hx => ?_, ?_⟩
    · simp [List.getD, List.getElem?_replicate]; split <;> rfl
    · have := List.eq_of_mem_replicate hx; omega
    · show limbsVal (xs.drop xs.length) = _
      rw [List.drop_length, List.drop_of_length_le (by simp)]; simp [limbsVal]
  case round =>
    obtain ⟨k, r', o, f, hk, rfl, rfl, hr', hbw, hsz, hown, HF, HL, HD, HV⟩ := hrel
    cases k with
    | zero =>
      have hs := HV.out
      rw [List.drop_zero, List.drop_zero] at hs
      have hq : limbsVal o = limbsVal xs / d := by rw [hs, Nat.mul_comm, Nat.mul_add_div hd0, Nat.div_eq_of_lt hr']; rfl
      have hrm : limbsVal xs % d = r' := by rw [hs, Nat.mul_comm, Nat.mul_add_mod, Nat.mod_eq_of_lt hr']
      have hR := own_limbs hown HF.out HL.out (by omega) HD.out
      have HT := hid (strip_any _ _ _ _ hR)
      rw [hq] at HT
      have HRM := hid hrm
      clear hs hq hR hrm
      have hr32 : r' < 4294967296 := by omega
      go_wp2_with fail
      refine Calls.mono HT.out ?_
      rintro e' w3 ⟨r, rfl, rfl, hr⟩
      go_wp2
      go_ret2
      exact ⟨r, by rw [HRM.out]; rfl, hr, hbw⟩
    | succ k =>
      rw [show (((k + 1 : Nat) : Int) - 1) = (k : Int) by omega]
      have hlt : k < xs.length := by omega
      rcases x4 with rfl | ⟨b1, off1, rfl, x4⟩
      · simp at hlt
      obtain ⟨g0, g1⟩ := x4.u32 hlt
      rw [← hbw.cell (p := ⟨b1, off1 + k, none⟩) (hS _ x4.1)] at g0
      have c1 := hown.cell hlt
      rw [HF.out k] at c1
      have c2 := hown.frozen k
      have hr32 : r' < 4294967296 := by omega
      obtain ⟨x, hx⟩ : ∃ x, x = xs[k] := ⟨_, rfl⟩
      have HX := hid (show limbsVal (xs.drop k) = x + 4294967296 * limbsVal (xs.drop (k + 1)) by rw [hx, List.drop_eq_getElem_cons hlt]; rfl)
      rw [← hx] at g0 g1
      clear hx
      have o1 := or32_add r' x hr32 g1
      obtain ⟨q, hq⟩ : ∃ q : Nat, q = (r' * 4294967296 + x) / d := ⟨_, rfl⟩
      obtain ⟨r2, hr2⟩ : ∃ r2 : Nat, r2 = (r' * 4294967296 + x) % d := ⟨_, rfl⟩
      have hqr : d * q + r2 = r' * 4294967296 + x := by rw [hq, hr2]; exact Nat.div_add_mod _ _
      have hr2d : r2 < d := by rw [hr2]; exact Nat.mod_lt _ hd0
      have hq32 : q < 4294967296 := by
        rw [hq]
        apply Nat.div_lt_of_lt_mul
        have := Nat.mul_le_mul_right 4294967296 (show r' + 1 ≤ d from hr')
        rw [Nat.add_mul] at this
        omega
      have Q1 := hid (show (((r' : Int) * 4294967296 + (x : Int)) / (d : Int)) % 4294967296 = (q : Int) by
        have : ((r' : Int) * 4294967296 + (x : Int)) / (d : Int) = (q : Int) := by rw [hq, Int.natCast_ediv, Int.natCast_add, Int.natCast_mul]; rfl
        rw [this]; omega)
      have Q2 := hid (show (((r' : Int) * 4294967296 + (x : Int)) % (d : Int)) = (r2 : Int) by rw [hr2, Int.natCast_emod, Int.natCast_add, Int.natCast_mul]; rfl)
      have HQR := hid hqr
      clear hq hr2 hqr
      go_wp2
      clear o1
      go_roundw
      case rel =>
        rw [Q1.out, Q2.out]
        have hko : k < o.length := by rw [HL.out]; exact hlt
        refine ⟨k, r2, o.set k q, upd f k (.int .u32 q), by omega, rfl, rfl, hr2d, hbw.setCell (Nat.le_refl _) _, by simpa using hsz, hown.set _ _, upd_set hko HF.out q, ?_, ?_, ?_⟩
        · show (o.set k q).length = _; simp [HL.out]
        · intro u hu
          rcases List.mem_or_eq_of_mem_set hu with h | h
          · exact HD.out u h
          · omega
        · show limbsVal (xs.drop k) = limbsVal ((o.set k q).drop k) * d + r2
          have e : (o.set k q).drop k = q :: o.drop (k + 1) := by
            rw [List.drop_eq_getElem_cons (by simpa using hko), List.drop_set_of_lt (by omega)]
            simp
          rw [HX.out, HV.out, e]
          show _ = (q + 4294967296 * limbsVal (o.drop (k + 1))) * d + r2
          have h1 := HQR.out
          rw [Nat.add_mul, Nat.mul_add, Nat.mul_assoc 4294967296, Nat.mul_comm q d]
          omega
      case measure => simp [intOf]
end Go.Proofs.YtogeijhepjcbgaaGreatDoor
end
section
/- insolvencyref1: times: walked. -/
namespace Go.Proofs.YtogeijhepjcbgaaGreatDoor
open Go.RowKit
end Go.Proofs.YtogeijhepjcbgaaGreatDoor
end
section
/- insolvencyref1: minus: walked. -/
namespace Go.Proofs.YtogeijhepjcbgaaGreatDoor
open Go.RowKit
end Go.Proofs.YtogeijhepjcbgaaGreatDoor
end
