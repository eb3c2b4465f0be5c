/- insolvencyref1: order, short: walked. -/
import Derived.Test.YtogeijhepjcbgaaGreatDoorRef1M
import Derived.Test.YtogeijhepjcbgaaGreatDoorNat1M
set_option linter.unusedVariables false
set_option linter.unusedSimpArgs false
set_option linter.defProp false
set_option linter.unnecessarySimpa false
section
/- insolvencyref1: order, short: walked. -/
namespace Go.Proofs.YtogeijhepjcbgaaGreatDoor
open Go.RowKit

set_option maxRecDepth 100000 in
set_option maxHeartbeats 1000000 in
theorem order_any (S : Nat → Prop) (u v : Value) (x y : Nat) (w : World) (hS : ∀ b, S b → b < w.heap.size) (hu : rSlice 1 rU32 w S [u] (limbsOf x)) (hv : rSlice 1 rU32 w S [v] (limbsOf y)) :
    Calls Tryz.prog 98 #[u, v] w fun e w' => e = .returned (.int .i64 (natCmp x y)) ∧ Below w.heap.size w w' := by
  obtain ⟨a, cap, rfl, h1, h2, h3, h4⟩ := u32s_open hu
  obtain ⟨a', cap', rfl, h1', h2', h3', h4'⟩ := u32s_open hv
  have hn := len_le h1 h2
  have hn' := len_le h1' h2'
  rcases Nat.lt_trichotomy (limbsOf x).length (limbsOf y).length with hl | hl | hl
  · have hR := hid (natCmp_lt (limbs_len_lt hl))
    have hl' : ((limbsOf x).length != (limbsOf y).length) = true := by simp; omega
    have hl2 : ¬ (((limbsOf x).length : Int) = ((limbsOf y).length : Int)) := by omega
    go_enter Tryz.func98, Tryz.ntmps98
    go_wp2
    go_ret
    exact ⟨ret_int hR.out.symm, Below.refl _ _⟩
  · have HL := hid hl
    rw [← hl]
    clear hl
    go_enter Tryz.func98, Tryz.ntmps98
    go_wp2
    go_loopw [5] (fun i wr => ∃ k : Nat, k ≤ (limbsOf x).length ∧ i = .int .i64 ((k : Int) - 1) ∧ Below w.heap.size w wr ∧ Hid ((limbsOf x).drop k = (limbsOf y).drop k)) (fun i _ => (intOf i + 1).toNat)
    case atStart => exact ⟨_, Nat.le_refl _, rfl, Below.refl _ _, by show (limbsOf x).drop (limbsOf x).length = (limbsOf y).drop (limbsOf x).length; rw [List.drop_length, HL.out, List.drop_length]⟩
    case round =>
      obtain ⟨k, hk, rfl, hbel, HE⟩ := hrel
      cases k with
      | zero =>
        have hxy : x = y := by
          have := HE.out
          rw [List.drop_zero, List.drop_zero] at this
          have := congrArg limbsVal this
          rwa [limbsVal_limbsOf, limbsVal_limbsOf] at this
        have hR : Hid (natCmp x y = 0) := by subst hxy; exact natCmp_eq _
        clear hxy
        go_wp2
        go_ret
        exact ⟨ret_int hR.out.symm, hbel⟩
      | succ k =>
        rw [show (((k + 1 : Nat) : Int) - 1) = (k : Int) by omega]
        have hlt : k < (limbsOf x).length := by omega
        have hlt' : k < (limbsOf y).length := by have := HL.out; omega
        rcases h4 with h4 | ⟨b, off, rfl, h4⟩
        · rw [h4] at hlt; simp at hlt
        rcases h4' with h4' | ⟨b', off', rfl, h4'⟩
        · rw [h4'] at hlt'; simp at hlt'
        obtain ⟨g0, g1⟩ := h4.u32 hlt
        rw [← hbel.cell (p := ⟨b, off + k, none⟩) (hS _ h4.1)] at g0
        obtain ⟨f0, f1⟩ := h4'.u32 hlt'
        rw [← hbel.cell (p := ⟨b', off' + k, none⟩) (hS _ h4'.1)] at f0
        have HX := hid (limbsOf_lt x)
        have HY := hid (limbsOf_lt y)
        have HVX := hid (limbsVal_limbsOf x)
        have HVY := hid (limbsVal_limbsOf y)
        rcases Nat.lt_trichotomy (limbsOf x)[k] (limbsOf y)[k] with hc | hc | hc
        · have hR : Hid (natCmp x y = -1) := natCmp_lt (by rw [← HVX.out, ← HVY.out]; exact limbs_lt_of_top HX.out HL.out k hlt hlt' HE.out hc)
          have q1 : (((limbsOf x)[k] : Int) != ((limbsOf y)[k] : Int)) = true := by rw [bne_iff_ne]; omega
          have q1' : ((limbsOf x)[k] != (limbsOf y)[k]) = true := by rw [bne_iff_ne]; omega
          go_wp2
          go_quiet (fail)
          go_wp2
          go_quiet (fail)
          go_wp2
          go_ret
          exact ⟨ret_int hR.out.symm, (hbel.drewN _).drewN _⟩
        · have q1 : (((limbsOf x)[k] : Int) != ((limbsOf y)[k] : Int)) = false := by simp [hc]
          have q1' : ((limbsOf x)[k] != (limbsOf y)[k]) = false := by simp [hc]
          have HC := hid hc
          clear hc
          go_wp2
          go_quiet (fail)
          go_wp2
          go_roundw
          case rel => exact ⟨k, by omega, rfl, hbel.drewN _, by show (limbsOf x).drop k = (limbsOf y).drop k; rw [List.drop_eq_getElem_cons hlt, List.drop_eq_getElem_cons hlt', HC.out, HE.out]⟩
          case measure => simp [intOf]
        · have hR : Hid (natCmp x y = 1) := natCmp_gt (by rw [← HVX.out, ← HVY.out]; exact limbs_lt_of_top HY.out HL.out.symm k hlt' hlt HE.out.symm hc)
          have q1 : (((limbsOf x)[k] : Int) != ((limbsOf y)[k] : Int)) = true := by rw [bne_iff_ne]; omega
          have q1' : ((limbsOf x)[k] != (limbsOf y)[k]) = true := by rw [bne_iff_ne]; omega
          have q2 : ¬ (limbsOf x)[k] < (limbsOf y)[k] := by omega
          go_wp2
          go_quiet (fail)
          go_wp2
          go_quiet (fail)
          go_wp2
          go_ret
          exact ⟨ret_int hR.out.symm, (hbel.drewN _).drewN _⟩
  · have hR := hid (natCmp_gt (limbs_len_lt hl))
    have hl' : ((limbsOf x).length != (limbsOf y).length) = true := by simp; omega
    have hl2 : ¬ (((limbsOf x).length : Int) = ((limbsOf y).length : Int)) := by omega
    go_enter Tryz.func98, Tryz.ntmps98
    go_wp2
    go_ret
    exact ⟨ret_int hR.out.symm, Below.refl _ _⟩

set_option maxRecDepth 100000 in
set_option maxHeartbeats 1000000 in
theorem short_any (S : Nat → Prop) (u : Value) (xs : List Nat) (d : Nat) (w : World) (hS : ∀ b, S b → b < w.heap.size) (hl : xs.length ≤ 1000000000000) (hd0 : 0 < d) (hd : d < 4294967296) (hu : rSlice 1 rU32 w S [u] xs) :
    Calls Tryz.prog 142 #[u, .int .u32 d] w fun e w' => ∃ r, e = .returned (.tuple #[r, .int .u32 ((limbsVal xs % d : Nat) : Int)]) ∧ rSlice 1 rU32 w' (LT w'.heap.size) [r] (limbsOf (limbsVal xs / d)) ∧ Below w.heap.size w w' := by
  have hxlt := hid (u32s_lt hu)
  obtain ⟨xa, xc, rfl, x1, x2, x3, x4⟩ := u32s_open hu
  have hn := len_le x1 x2
  have hmk := fun (w : World) => make_one (P := Tryz.prog) Tryz.underlying150 Tryz.infoU32 rfl w xs.length (by omega) (by omega)
  go_enter Tryz.func142, Tryz.ntmps142
  go_wp2
  clear hmk
  go_loopw [7, 8] (fun r i wr => ∃ (k r' : Nat) (o : List Nat) (f : Nat → Value), k ≤ xs.length ∧ i = .int .i64 ((k : Int) - 1) ∧ r = .int .u64 (r' : Int) ∧ r' < d ∧ Below w.heap.size w wr ∧ w.heap.size < wr.heap.size ∧ Own wr w.heap.size 157 xs.length f ∧ Hid (∀ j, f j = .int .u32 ((o.getD j 0 : Nat) : Int)) ∧ Hid (o.length = xs.length) ∧ Hid (∀ x ∈ o, x < 4294967296) ∧
      Hid (limbsVal (xs.drop k) = limbsVal (o.drop k) * d + r')) (fun _ i _ => (intOf i + 1).toNat)
  case atStart =>
    refine ⟨xs.length, 0, List.replicate xs.length 0, _, Nat.le_refl _, rfl, rfl, hd0, (Below.refl _ _).alloc (Nat.le_refl _) _, by simp, Own.new _ _ _ _, fun j => ?_, by simp [Hid], fun x hx => ?_, ?_⟩
    · simp [List.getD, List.getElem?_replicate]; split <;> rfl
    · have := List.eq_of_mem_replicate hx; omega
    · show limbsVal (xs.drop xs.length) = _
      rw [List.drop_length, List.drop_of_length_le (by simp)]; simp [limbsVal]
  case round =>
    obtain ⟨k, r', o, f, hk, rfl, rfl, hr', hbw, hsz, hown, HF, HL, HD, HV⟩ := hrel
    cases k with
    | zero =>
      have hs := HV.out
      rw [List.drop_zero, List.drop_zero] at hs
      have hq : limbsVal o = limbsVal xs / d := by rw [hs, Nat.mul_comm, Nat.mul_add_div hd0, Nat.div_eq_of_lt hr']; rfl
      have hrm : limbsVal xs % d = r' := by rw [hs, Nat.mul_comm, Nat.mul_add_mod, Nat.mod_eq_of_lt hr']
      have hR := own_limbs hown HF.out HL.out (by omega) HD.out
      have HT := hid (strip_any _ _ _ _ hR)
      rw [hq] at HT
      have HRM := hid hrm
      clear hs hq hR hrm
      have hr32 : r' < 4294967296 := by omega
      go_wp2_with fail
      refine Calls.mono HT.out ?_
      rintro e' w3 ⟨r, rfl, rfl, hr⟩
      go_wp2
      go_ret2
      exact ⟨r, by rw [HRM.out]; rfl, hr, hbw⟩
    | succ k =>
      rw [show (((k + 1 : Nat) : Int) - 1) = (k : Int) by omega]
      have hlt : k < xs.length := by omega
      rcases x4 with rfl | ⟨b1, off1, rfl, x4⟩
      · simp at hlt
      obtain ⟨g0, g1⟩ := x4.u32 hlt
      rw [← hbw.cell (p := ⟨b1, off1 + k, none⟩) (hS _ x4.1)] at g0
      have c1 := hown.cell hlt
      rw [HF.out k] at c1
      have c2 := hown.frozen k
      have hr32 : r' < 4294967296 := by omega
      obtain ⟨x, hx⟩ : ∃ x, x = xs[k] := ⟨_, rfl⟩
      have HX := hid (show limbsVal (xs.drop k) = x + 4294967296 * limbsVal (xs.drop (k + 1)) by rw [hx, List.drop_eq_getElem_cons hlt]; rfl)
      rw [← hx] at g0 g1
      clear hx
      have o1 := or32_add r' x hr32 g1
      obtain ⟨q, hq⟩ : ∃ q : Nat, q = (r' * 4294967296 + x) / d := ⟨_, rfl⟩
      obtain ⟨r2, hr2⟩ : ∃ r2 : Nat, r2 = (r' * 4294967296 + x) % d := ⟨_, rfl⟩
      have hqr : d * q + r2 = r' * 4294967296 + x := by rw [hq, hr2]; exact Nat.div_add_mod _ _
      have hr2d : r2 < d := by rw [hr2]; exact Nat.mod_lt _ hd0
      have hq32 : q < 4294967296 := by
        rw [hq]
        apply Nat.div_lt_of_lt_mul
        have := Nat.mul_le_mul_right 4294967296 (show r' + 1 ≤ d from hr')
        rw [Nat.add_mul] at this
        omega
      have Q1 := hid (show (((r' : Int) * 4294967296 + (x : Int)) / (d : Int)) % 4294967296 = (q : Int) by
        have : ((r' : Int) * 4294967296 + (x : Int)) / (d : Int) = (q : Int) := by rw [hq, Int.natCast_ediv, Int.natCast_add, Int.natCast_mul]; rfl
        rw [this]; omega)
      have Q2 := hid (show (((r' : Int) * 4294967296 + (x : Int)) % (d : Int)) = (r2 : Int) by rw [hr2, Int.natCast_emod, Int.natCast_add, Int.natCast_mul]; rfl)
      have HQR := hid hqr
      clear hq hr2 hqr
      go_wp2
      clear o1
      go_roundw
      case rel =>
        rw [Q1.out, Q2.out]
        have hko : k < o.length := by rw [HL.out]; exact hlt
        refine ⟨k, r2, o.set k q, upd f k (.int .u32 q), by omega, rfl, rfl, hr2d, hbw.setCell (Nat.le_refl _) _, by simpa using hsz, hown.set _ _, upd_set hko HF.out q, ?_, ?_, ?_⟩
        · show (o.set k q).length = _; simp [HL.out]
        · intro u hu
          rcases List.mem_or_eq_of_mem_set hu with h | h
          · exact HD.out u h
          · omega
        · show limbsVal (xs.drop k) = limbsVal ((o.set k q).drop k) * d + r2
          have e : (o.set k q).drop k = q :: o.drop (k + 1) := by
            rw [List.drop_eq_getElem_cons (by simpa using hko), List.drop_set_of_lt (by omega)]
            simp
          rw [HX.out, HV.out, e]
          show _ = (q + 4294967296 * limbsVal (o.drop (k + 1))) * d + r2
          have h1 := HQR.out
          rw [Nat.add_mul, Nat.mul_add, Nat.mul_assoc 4294967296, Nat.mul_comm q d]
          omega
      case measure => simp [intOf]

end Go.Proofs.YtogeijhepjcbgaaGreatDoor
end
section
/- insolvencyref1: times: walked. -/
namespace Go.Proofs.YtogeijhepjcbgaaGreatDoor
open Go.RowKit

set_option maxRecDepth 100000 in
set_option maxHeartbeats 1000000 in
theorem times_any (u v : Value) (xs ys : List Nat) (w : World) (hx : xs.length ≤ 500000000000) (hy : ys.length ≤ 500000000000) (hu : rSlice 1 rU32 w (LT w.heap.size) [u] xs) (hv : rSlice 1 rU32 w (LT w.heap.size) [v] ys) :
    Calls Tryz.prog 94 #[u, v] w fun e w' => ∃ r, e = .returned r ∧ rSlice 1 rU32 w' (LT w'.heap.size) [r] (limbsOf (limbsVal xs * limbsVal ys)) ∧ Below w.heap.size w w' := by
  have hbel := Below.refl w.heap.size w
  obtain ⟨pa, pc, rfl, p1, p2, p3, p4⟩ := u32s_open hu
  obtain ⟨qa, qc, rfl, q1, q2, q3, q4⟩ := u32s_open hv
  obtain ⟨n, hn⟩ : ∃ n : Nat, n = xs.length + ys.length := ⟨_, rfl⟩
  have hn1 : (xs.length : Int) + (ys.length : Int) = (n : Int) := by omega
  have hmk := fun (w : World) => make_one (P := Tryz.prog) Tryz.underlying150 Tryz.infoU32 rfl w n (by omega) (by omega)
  have HN := hid hn
  clear hn
  have hxn : xs.length ≤ 9223372036854775807 := by omega
  have hyn : ys.length ≤ 9223372036854775807 := by omega
  go_enter Tryz.func94, Tryz.ntmps94
  go_wp2
  clear hmk hn1
  go_loopw [6, 7, 8] (fun i _ _ wr => ∃ (k : Nat) (o : List Nat) (f : Nat → Value), k ≤ xs.length ∧ i = .int .i64 k ∧ Below w.heap.size w wr ∧ w.heap.size < wr.heap.size ∧ Below w.heap.size w wr ∧ Own wr w.heap.size 157 n f ∧ Hid (∀ j, f j = .int .u32 ((o.getD j 0 : Nat) : Int)) ∧ Hid (o.length = n) ∧ Hid (∀ x ∈ o, x < 4294967296) ∧
      Hid (limbsVal o = limbsVal (xs.take k) * limbsVal ys) ∧ Hid (∀ j, k + ys.length ≤ j → o.getD j 0 = 0)) (fun i _ _ _ => xs.length - (intOf i).toNat)
  case atStart =>
    refine ⟨0, List.replicate n 0, _, Nat.zero_le _, rfl, hbel.alloc hbel.size _, by simp, (Below.refl _ _).alloc (Nat.le_refl _) _, Own.new _ _ _ _, fun j => ?_, by simp [Hid], fun x hx => ?_, ?_, fun j _ => ?_⟩
    · simp [List.getD, List.getElem?_replicate]; split <;> rfl
    · have := List.eq_of_mem_replicate hx; omega
    · show limbsVal _ = limbsVal (xs.take 0) * limbsVal ys; rw [limbsVal_zeros]; simp [limbsVal]
    · simp [List.getD, List.getElem?_replicate]; split <;> rfl
  case round =>
    obtain ⟨k, o, f, hk, rfl, hbw, hsz, hbw, hown, HF, HL, HD, HV, HZ⟩ := hrel
    by_cases hlt : k < xs.length
    · rcases p4 with rfl | ⟨b1, off1, rfl, p4⟩
      · simp at hlt
      obtain ⟨g0, g1⟩ := p4.u32 hlt
      have hkn : k + ys.length < n := by have := HN.out; omega
      have HT := hid (limbsVal_take_succ xs k hlt)
      obtain ⟨x, hx⟩ : ∃ x, x = xs[k] := ⟨_, rfl⟩
      rw [← hx] at g0 g1 HT
      clear hx
      have hkn' : (k : Int) < (n : Int) := by omega
      obtain ⟨wo, hwo⟩ : ∃ wo : World, wo = wr := ⟨_, rfl⟩
      subst hwo
      go_wp2
      go_loopw [7, 8] (fun c i wr => ∃ (m c' : Nat) (o' : List Nat) (f : Nat → Value), m ≤ ys.length ∧ i = .int .i64 m ∧ c = .int .u64 (c' : Int) ∧ c' < 4294967296 ∧ Below w.heap.size w wr ∧ w.heap.size < wr.heap.size ∧ Below w.heap.size w wr ∧ Own wr w.heap.size 157 n f ∧ Hid (∀ j, f j = .int .u32 ((o'.getD j 0 : Nat) : Int)) ∧ Hid (o'.length = n) ∧ Hid (∀ x ∈ o', x < 4294967296) ∧
        Hid (limbsVal o' + 4294967296 ^ (k + m) * c' = limbsVal (xs.take k) * limbsVal ys + 4294967296 ^ k * (x * limbsVal (ys.take m))) ∧ Hid (∀ j, k + ys.length ≤ j → o'.getD j 0 = 0)) (fun _ i _ => ys.length - (intOf i).toNat)
      case atStart => exact ⟨0, 0, o, f, Nat.zero_le _, rfl, rfl, by omega, hbw, hsz, hbw, hown, HF, HL, HD, by simp [Hid, limbsVal, HV.out], HZ⟩
      case round =>
        clear hown HF HL HD HV HZ hbw hsz
        obtain ⟨m, c', o', f, hm, rfl, rfl, hc', hbw, hsz, hbw, hown, HF, HL, HD, HV, HZ⟩ := hrel
        by_cases hmlt : m < ys.length
        · rcases q4 with rfl | ⟨b2, off2, rfl, q4⟩
          · simp at hmlt
          obtain ⟨f0, f1⟩ := q4.u32 hmlt
          rw [← hbw.cell (p := ⟨b2, off2 + m, none⟩) q4.1] at f0
          have hp : k + m < n := by omega
          have HT2 := hid (limbsVal_take_succ ys m hmlt)
          obtain ⟨y, hy⟩ : ∃ y, y = ys[m] := ⟨_, rfl⟩
          rw [← hy] at f0 f1 HT2
          clear hy
          have c1 := hown.cell hp
          rw [HF.out] at c1
          have hpo : k + m < o'.length := by rw [HL.out]; exact hp
          have eo : o'.getD (k + m) 0 = o'[k + m] := by simp [List.getD, hpo]
          have ho : o'[k + m] < 4294967296 := HD.out _ (List.getElem_mem hpo)
          have HS := hid (fun d => limbsVal_set o' (k + m) d hpo)
          rw [eo] at c1
          obtain ⟨z, hz⟩ : ∃ z, z = o'[k + m] := ⟨_, rfl⟩
          rw [← hz] at c1 ho HS
          have c2 := hown.frozen (k + m)
          clear hz eo
          obtain ⟨d, hd⟩ : ∃ d : Nat, d = (x * y + z + c') % 4294967296 := ⟨_, rfl⟩
          obtain ⟨e, he⟩ : ∃ e : Nat, e = (x * y + z + c') / 4294967296 := ⟨_, rfl⟩
          have hmb := mul_bd g1 f1
          have hde : d + 4294967296 * e = x * y + z + c' := by omega
          have hd1 : d < 4294967296 := by omega
          have he1 : e < 4294967296 := by omega
          have e1 : IntKind.u64.wrap ((x : Int) * (y : Int)) = (x : Int) * (y : Int) := IntWalk.u64_in _ (by rw [← Int.natCast_mul]; omega)
          have e2 : IntKind.u64.wrap ((c' : Int) + (x : Int) * (y : Int)) = (c' : Int) + (x : Int) * (y : Int) := IntWalk.u64_in _ (by rw [← Int.natCast_mul]; omega)
          have e3 : IntKind.u64.wrap ((c' : Int) + (x : Int) * (y : Int) + (z : Int)) = (c' : Int) + (x : Int) * (y : Int) + (z : Int) := IntWalk.u64_in _ (by rw [← Int.natCast_mul]; omega)
          have HDE := hid hde
          have Hd := hid (show ((c' : Int) + (x : Int) * (y : Int) + (z : Int)) % 4294967296 = (d : Int) by rw [← Int.natCast_mul]; omega)
          have He := hid (show ((c' : Int) + (x : Int) * (y : Int) + (z : Int)) / 4294967296 = (e : Int) by rw [← Int.natCast_mul]; omega)
          clear hmb hd he hde
          have gx0 := g0
          rw [← hbw.cell (p := ⟨b1, off1 + k, none⟩) p4.1] at gx0
          go_wp2
          go_quiet (fail)
          go_wp2
          clear e1 e2 e3
          go_roundw
          case rel =>
            rw [Hd.out, He.out]
            refine ⟨m + 1, e, o'.set (k + m) d, upd f (k + m) (.int .u32 d), by omega, by go_num, rfl, he1, (hbw.drewN _).setCell (p := ⟨w.heap.size, _, none⟩) hbel.size _, by simpa using hsz, (hbw.drewN _).setCell (Nat.le_refl _) _, (show Own (World.drewN _ _) _ _ _ _ from hown).set _ _, upd_set hpo HF.out d, ?_, ?_, ?_, ?_⟩
            · show (o'.set (k + m) d).length = n; simp [HL.out]
            · intro u hu
              rcases List.mem_or_eq_of_mem_set hu with h | h
              · exact HD.out u h
              · omega
            · show limbsVal (o'.set (k + m) d) + 4294967296 ^ (k + (m + 1)) * e = _
              have h1 := HV.out
              have h2 := HS.out d
              rw [HT2.out, ← Nat.add_assoc k m 1, Nat.pow_succ, Nat.mul_assoc]
              have h3 : 4294967296 ^ (k + m) * d + 4294967296 ^ (k + m) * (4294967296 * e) = 4294967296 ^ (k + m) * (x * y) + 4294967296 ^ (k + m) * z + 4294967296 ^ (k + m) * c' := by rw [← Nat.mul_add, HDE.out, Nat.mul_add, Nat.mul_add]
              have h4 : 4294967296 ^ k * (x * (limbsVal (ys.take m) + 4294967296 ^ m * y)) = 4294967296 ^ k * (x * limbsVal (ys.take m)) + 4294967296 ^ (k + m) * (x * y) := by
                rw [Nat.mul_add, Nat.mul_add, Nat.pow_add, Nat.mul_assoc (4294967296 ^ k)]
                congr 2
                rw [Nat.mul_left_comm]
              rw [h4]
              omega
            · intro j hj
              have := HZ.out j hj
              simpa [List.getD, List.getElem?_set, show ¬ k + m = j by omega] using this
          case measure => simp [intOf]; omega
        · have hm' : m = ys.length := by omega
          have hp : k + ys.length < o'.length := by rw [HL.out]; exact hkn
          have c1 := hown.cell hkn
          rw [HF.out] at c1
          have c2 := hown.frozen (k + ys.length)
          have hV2 : limbsVal (o'.set (k + ys.length) c') = limbsVal (xs.take (k + 1)) * limbsVal ys := by
            have h1 := HV.out
            have h2 := limbsVal_set o' (k + ys.length) c' hp
            have h3 := HZ.out (k + ys.length) (Nat.le_refl _)
            simp only [List.getD, List.getElem?_eq_getElem hp, Option.getD_some] at h3
            rw [h3] at h2
            rw [hm', List.take_length] at h1
            rw [HT.out, Nat.add_mul, Nat.mul_assoc]
            omega
          have HV2 := hid hV2
          clear hV2 hm'
          go_wp2
          go_roundw
          case rel =>
            refine ⟨k + 1, o'.set (k + ys.length) c', upd f (k + ys.length) (.int .u32 c'), by omega, by go_num, hbw.setCell (p := ⟨w.heap.size, _, none⟩) hbel.size _, by simpa using hsz, hbw.setCell (Nat.le_refl _) _, hown.set _ _, upd_set hp HF.out c', ?_, ?_, HV2.out, ?_⟩
            · show (o'.set _ _).length = n; simp [HL.out]
            · intro u hu
              rcases List.mem_or_eq_of_mem_set hu with h | h
              · exact HD.out u h
              · omega
            · intro j hj
              have := HZ.out j (by omega)
              simpa [List.getD, List.getElem?_set, show ¬ k + ys.length = j by omega] using this
          case measure => simp [intOf]; omega
    · have hs : limbsVal o = limbsVal xs * limbsVal ys := by
        have h1 := HV.out
        rw [List.take_of_length_le (by omega)] at h1
        exact h1
      have HR := hid (strip_any _ _ o _ (own_limbs hown HF.out HL.out (by have := HN.out; omega) HD.out))
      rw [hs] at HR
      clear hs
      go_wp2_with fail
      refine Calls.mono HR.out ?_
      rintro e' w3 ⟨r, rfl, rfl, hr⟩
      go_wp2
      go_ret
      exact ⟨_, rfl, hr, hbw⟩

end Go.Proofs.YtogeijhepjcbgaaGreatDoor
end
section
/- insolvencyref1: minus: walked. -/
namespace Go.Proofs.YtogeijhepjcbgaaGreatDoor
open Go.RowKit

theorem minus_arith {P d y x e ld lx ly c' : Nat} (h : d + (c' + y) = x + 4294967296 * e) (hV : ld + ly = lx + P * c') : ld + P * d + (ly + P * y) = lx + P * x + P * 4294967296 * e := by
  have h2 : P * d + (P * c' + P * y) = P * x + P * 4294967296 * e := by rw [← Nat.mul_add, ← Nat.mul_add, h, Nat.mul_add, Nat.mul_assoc]
  omega

set_option maxRecDepth 100000 in
set_option maxHeartbeats 1000000 in
theorem minus_any (S : Nat → Prop) (u v : Value) (x y : Nat) (w : World) (hS : ∀ b, S b → b < w.heap.size) (hl : (limbsOf x).length ≤ 1000000000000) (hyx : y ≤ x) (hu : rSlice 1 rU32 w S [u] (limbsOf x)) (hv : rSlice 1 rU32 w S [v] (limbsOf y)) :
    Calls Tryz.prog 99 #[u, v] w fun e w' => ∃ r, e = .returned r ∧ rSlice 1 rU32 w' (LT w'.heap.size) [r] (limbsOf (x - y)) ∧ Below w.heap.size w w' := by
  have hxlt := hid (limbsOf_lt x)
  have hylt := hid (limbsOf_lt y)
  have vx := hid (limbsVal_limbsOf x)
  have vy := hid (limbsVal_limbsOf y)
  have hylen : (limbsOf y).length ≤ (limbsOf x).length := by
    rcases Nat.lt_or_ge (limbsOf x).length (limbsOf y).length with h | h
    · have := limbs_len_lt h; omega
    · exact h
  obtain ⟨xa, xc, rfl, x1, x2, x3, x4⟩ := u32s_open hu
  obtain ⟨ya, yc, rfl, y1, y2, y3, y4⟩ := u32s_open hv
  generalize limbsOf x = xs at *
  generalize limbsOf y = ys at *
  have hn := len_le x1 x2
  have hmk := fun (w : World) => make_one (P := Tryz.prog) Tryz.underlying150 Tryz.infoU32 rfl w xs.length (by omega) (by omega)
  go_enter Tryz.func99, Tryz.ntmps99
  go_wp2
  clear hmk
  go_loopw [6, 7, 8, 9] (fun c i _ _ wr => ∃ (k c' : Nat) (ds : List Nat) (f : Nat → Value), k ≤ xs.length ∧ i = .int .i64 k ∧ c = .int .u64 (c' : Int) ∧ Hid (c' ≤ 1) ∧ Below w.heap.size w wr ∧ w.heap.size < wr.heap.size ∧ Own wr w.heap.size 157 xs.length f ∧ Hid (∀ j, f j = .int .u32 ((ds.getD j 0 : Nat) : Int)) ∧ Hid (ds.length = k) ∧ Hid (∀ x ∈ ds, x < 4294967296) ∧
      Hid (limbsVal ds + limbsVal (ys.take k) = limbsVal (xs.take k) + 4294967296 ^ k * c')) (fun _ i _ _ _ => xs.length - (intOf i).toNat)
  case atStart => exact ⟨0, 0, [], _, Nat.zero_le _, rfl, rfl, by show 0 ≤ 1; omega, (Below.refl _ _).alloc (Nat.le_refl _) _, by simp, Own.new _ _ _ _, fun j => by simp, rfl, fun x hx => by simp at hx, by simp [Hid, limbsVal]⟩
  case round =>
    obtain ⟨k, c', ds, f, hk, rfl, rfl, hc', hbw, hsz, hown, HF, HL, HD, HV⟩ := hrel
    by_cases hlt : k < xs.length
    · rcases x4 with rfl | ⟨b1, off1, rfl, x4⟩
      · simp at hlt
      obtain ⟨g0, g1⟩ := x4.u32 hlt
      rw [← hbw.cell (p := ⟨b1, off1 + k, none⟩) (hS _ x4.1)] at g0
      have c1 := hown.cell hlt
      rw [HF.out k] at c1
      have c2 := hown.frozen k
      have e1 := take_succ_getD xs k
      have e2 := take_succ_getD ys k
      have ex : xs.getD k 0 = xs[k] := by simp [List.getD, hlt]
      rw [ex] at e1
      obtain ⟨X, hX⟩ : ∃ X, X = xs[k] := ⟨_, rfl⟩
      rw [← hX] at e1 g0 g1
      have E1 := hid e1
      clear e1 ex hX
      by_cases hy : k < ys.length
      · rcases y4 with rfl | ⟨b2, off2, rfl, y4⟩
        · simp at hy
        obtain ⟨f0, f1⟩ := y4.u32 hy
        rw [← hbw.cell (p := ⟨b2, off2 + k, none⟩) (hS _ y4.1)] at f0
        have ey : ys.getD k 0 = ys[k] := by simp [List.getD, hy]
        rw [ey] at e2
        obtain ⟨yk, hyk⟩ : ∃ X, X = ys[k] := ⟨_, rfl⟩
        rw [← hyk] at e2 f0 f1
        have E2 := hid e2
        obtain ⟨Y, hY⟩ : ∃ Y, Y = c' + yk := ⟨_, rfl⟩
        have q1 : IntKind.u64.wrap ((c' : Int) + (yk : Int)) = (Y : Int) := by
          rw [show (c' : Int) + (yk : Int) = (Y : Int) by omega]; exact IntWalk.u64_in _ (by have := hc'.out; omega)
        clear ey e2 hyk
        by_cases hc : X < Y
        · obtain ⟨X2, hX2⟩ : ∃ X2, X2 = X + 4294967296 := ⟨_, rfl⟩
          obtain ⟨d, hd⟩ : ∃ d, d = X2 - Y := ⟨_, rfl⟩
          have hd1 : d < 4294967296 := by omega
          have q2 : IntKind.u64.wrap ((X : Int) + 4294967296) = (X2 : Int) := by
            rw [show (X : Int) + 4294967296 = (X2 : Int) by omega]; exact IntWalk.u64_in _ (by omega)
          have q3 : IntKind.u64.wrap ((X2 : Int) - (Y : Int)) = (d : Int) := by
            rw [show (X2 : Int) - (Y : Int) = (d : Int) by have := hc'.out; omega]; exact IntWalk.u64_in _ (by omega)
          have q4 : (d : Int) % 4294967296 = (d : Int) := by omega
          have HDE := hid (show d + (c' + yk) = X + 4294967296 * 1 by have := hc'.out; omega)
          have HD1 := hid hd1
          clear hd hY hX2 hd1
          go_wp2
          clear q1 q2 q3 q4
          go_roundw
          case rel =>
            refine ⟨k + 1, 1, ds ++ [d], upd f k (.int .u32 d), by omega, by go_num, rfl, by show _ ≤ 1; omega, hbw.setCell (Nat.le_refl _) _, by simpa using hsz, hown.set _ _, upd_snoc HL.out HF.out d, ?_, ?_, ?_⟩
            · show (ds ++ [d]).length = k + 1; simp [HL.out]
            · intro x hx; rcases List.mem_append.1 hx with h | h
              · exact HD.out x h
              · simp at h; have := HD1.out; omega
            · show limbsVal (ds ++ [d]) + limbsVal (ys.take (k + 1)) = limbsVal (xs.take (k + 1)) + 4294967296 ^ (k + 1) * 1
              rw [limbsVal_snoc, HL.out, E1.out, E2.out, Nat.pow_succ]
              exact minus_arith HDE.out HV.out
          case measure => simp [intOf]; omega
        · obtain ⟨d, hd⟩ : ∃ d, d = X - Y := ⟨_, rfl⟩
          have hd1 : d < 4294967296 := by omega
          have q3 : IntKind.u64.wrap ((X : Int) - (Y : Int)) = (d : Int) := by
            rw [show (X : Int) - (Y : Int) = (d : Int) by omega]; exact IntWalk.u64_in _ (by omega)
          have q4 : (d : Int) % 4294967296 = (d : Int) := by omega
          have HDE := hid (show d + (c' + yk) = X + 4294967296 * 0 by omega)
          have HD1 := hid hd1
          clear hd hY hd1
          go_wp2
          clear q1 q3 q4
          go_roundw
          case rel =>
            refine ⟨k + 1, 0, ds ++ [d], upd f k (.int .u32 d), by omega, by go_num, rfl, by show _ ≤ 1; omega, hbw.setCell (Nat.le_refl _) _, by simpa using hsz, hown.set _ _, upd_snoc HL.out HF.out d, ?_, ?_, ?_⟩
            · show (ds ++ [d]).length = k + 1; simp [HL.out]
            · intro x hx; rcases List.mem_append.1 hx with h | h
              · exact HD.out x h
              · simp at h; have := HD1.out; omega
            · show limbsVal (ds ++ [d]) + limbsVal (ys.take (k + 1)) = limbsVal (xs.take (k + 1)) + 4294967296 ^ (k + 1) * 0
              rw [limbsVal_snoc, HL.out, E1.out, E2.out, Nat.pow_succ]
              exact minus_arith HDE.out HV.out
          case measure => simp [intOf]; omega
      · have ey : ys.getD k 0 = 0 := by simp [List.getD, List.getElem?_eq_none (by omega : ys.length ≤ k)]
        rw [ey] at e2
        have f1 : 0 < 4294967296 := by decide
        have E2 := hid e2
        have hY : c' = c' + 0 := rfl
        clear ey e2
        by_cases hc : X < c'
        · obtain ⟨X2, hX2⟩ : ∃ X2, X2 = X + 4294967296 := ⟨_, rfl⟩
          obtain ⟨d, hd⟩ : ∃ d, d = X2 - c' := ⟨_, rfl⟩
          have hd1 : d < 4294967296 := by omega
          have q2 : IntKind.u64.wrap ((X : Int) + 4294967296) = (X2 : Int) := by
            rw [show (X : Int) + 4294967296 = (X2 : Int) by omega]; exact IntWalk.u64_in _ (by omega)
          have q3 : IntKind.u64.wrap ((X2 : Int) - (c' : Int)) = (d : Int) := by
            rw [show (X2 : Int) - (c' : Int) = (d : Int) by have := hc'.out; omega]; exact IntWalk.u64_in _ (by omega)
          have q4 : (d : Int) % 4294967296 = (d : Int) := by omega
          have HDE := hid (show d + (c' + 0) = X + 4294967296 * 1 by have := hc'.out; omega)
          have HD1 := hid hd1
          clear hd hY hX2 hd1
          go_wp2
          clear q2 q3 q4
          go_roundw
          case rel =>
            refine ⟨k + 1, 1, ds ++ [d], upd f k (.int .u32 d), by omega, by go_num, rfl, by show _ ≤ 1; omega, hbw.setCell (Nat.le_refl _) _, by simpa using hsz, hown.set _ _, upd_snoc HL.out HF.out d, ?_, ?_, ?_⟩
            · show (ds ++ [d]).length = k + 1; simp [HL.out]
            · intro x hx; rcases List.mem_append.1 hx with h | h
              · exact HD.out x h
              · simp at h; have := HD1.out; omega
            · show limbsVal (ds ++ [d]) + limbsVal (ys.take (k + 1)) = limbsVal (xs.take (k + 1)) + 4294967296 ^ (k + 1) * 1
              rw [limbsVal_snoc, HL.out, E1.out, E2.out, Nat.pow_succ]
              exact minus_arith HDE.out HV.out
          case measure => simp [intOf]; omega
        · obtain ⟨d, hd⟩ : ∃ d, d = X - c' := ⟨_, rfl⟩
          have hd1 : d < 4294967296 := by omega
          have q3 : IntKind.u64.wrap ((X : Int) - (c' : Int)) = (d : Int) := by
            rw [show (X : Int) - (c' : Int) = (d : Int) by omega]; exact IntWalk.u64_in _ (by omega)
          have q4 : (d : Int) % 4294967296 = (d : Int) := by omega
          have HDE := hid (show d + (c' + 0) = X + 4294967296 * 0 by omega)
          have HD1 := hid hd1
          clear hd hY hd1
          go_wp2
          clear q3 q4
          go_roundw
          case rel =>
            refine ⟨k + 1, 0, ds ++ [d], upd f k (.int .u32 d), by omega, by go_num, rfl, by show _ ≤ 1; omega, hbw.setCell (Nat.le_refl _) _, by simpa using hsz, hown.set _ _, upd_snoc HL.out HF.out d, ?_, ?_, ?_⟩
            · show (ds ++ [d]).length = k + 1; simp [HL.out]
            · intro x hx; rcases List.mem_append.1 hx with h | h
              · exact HD.out x h
              · simp at h; have := HD1.out; omega
            · show limbsVal (ds ++ [d]) + limbsVal (ys.take (k + 1)) = limbsVal (xs.take (k + 1)) + 4294967296 ^ (k + 1) * 0
              rw [limbsVal_snoc, HL.out, E1.out, E2.out, Nat.pow_succ]
              exact minus_arith HDE.out HV.out
          case measure => simp [intOf]; omega
    · have hk' : k = xs.length := by omega
      have hs : limbsVal ds = x - y := by
        have h1 := HV.out
        rw [List.take_of_length_le (by omega), List.take_of_length_le (by omega), vx.out, vy.out] at h1
        have h2 := limbsVal_lt HD.out
        rw [HL.out] at h2
        have : c' = 0 ∨ c' = 1 := by have := hc'.out; omega
        rcases this with h | h
        · subst h; omega
        · subst h; omega
      have hR := own_limbs hown HF.out (by rw [HL.out, hk']) (by omega) HD.out
      have HT := hid (strip_any _ _ _ _ hR)
      rw [hs] at HT
      clear hs hk' hR
      go_wp2_with fail
      refine Calls.mono HT.out ?_
      rintro e' w3 ⟨r, rfl, rfl, hr⟩
      go_wp2
      go_ret
      exact ⟨_, rfl, hr, hbw⟩

end Go.Proofs.YtogeijhepjcbgaaGreatDoor
end
section
/- insolvencyref1: plus: walked. -/
namespace Go.Proofs.YtogeijhepjcbgaaGreatDoor
open Go.RowKit

theorem plus_arith {P d X Y e ld lx ly c' : Nat} (h : d + 4294967296 * e = c' + X + Y) (hV : ld + P * c' = lx + ly) : ld + P * d + P * 4294967296 * e = lx + P * X + (ly + P * Y) := by
  have h2 : P * d + P * 4294967296 * e = P * c' + P * X + P * Y := by rw [Nat.mul_assoc, ← Nat.mul_add, h, Nat.mul_add, Nat.mul_add]
  omega

theorem limbs_pow {x k : Nat} (h : k < (limbsOf x).length) : 4294967296 ^ k ≤ x := by
  rcases Nat.lt_or_ge x (4294967296 ^ k) with h1 | h1
  · have := limbsOf_len_le h1; omega
  · exact h1

theorem limbsOf_eq {ds : List Nat} {v k : Nat} (hk : ds.length = k) (hd : ∀ x ∈ ds, x < 4294967296) (hv : limbsVal ds = v) (h : k = 0 ∨ 4294967296 ^ (k - 1) ≤ v) : limbsOf v = ds := by
  have h1 := limbsVal_lt hd
  rw [hv, hk] at h1
  have h2 := limbsOf_len_le h1
  have h3 : (limbsOf v).length = k := by
    rcases h with h | h
    · omega
    · have := limbsOf_len_ge h; omega
  have a := limbsFix_of hd
  have b := limbsFix_of (limbsOf_lt v)
  rw [limbsVal_limbsOf, h3] at b
  rw [hk, hv] at a
  rw [← a, ← b]

set_option maxRecDepth 100000 in
set_option maxHeartbeats 1000000 in
theorem plus_any (S : Nat → Prop) (u v : Value) (x y : Nat) (w : World) (hS : ∀ b, S b → b < w.heap.size) (hl : (limbsOf x).length ≤ 1000000000000) (hl2 : (limbsOf y).length ≤ 1000000000000) (hu : rSlice 1 rU32 w S [u] (limbsOf x)) (hv : rSlice 1 rU32 w S [v] (limbsOf y)) :
    Calls Tryz.prog 97 #[u, v] w fun e w' => ∃ r, e = .returned r ∧ rSlice 1 rU32 w' (LT w'.heap.size) [r] (limbsOf (x + y)) ∧ Below w.heap.size w w' := by
  have vx := hid (limbsVal_limbsOf x)
  have vy := hid (limbsVal_limbsOf y)
  have HPx := hid (fun k (h : k < (limbsOf x).length) => limbs_pow h)
  have HPy := hid (fun k (h : k < (limbsOf y).length) => limbs_pow h)
  obtain ⟨xa, xc, rfl, x1, x2, x3, x4⟩ := u32s_open hu
  obtain ⟨ya, yc, rfl, y1, y2, y3, y4⟩ := u32s_open hv
  generalize limbsOf x = xs at *
  generalize limbsOf y = ys at *
  have hn := len_le x1 x2
  have hn' := len_le y1 y2
  go_enter Tryz.func97, Tryz.ntmps97
  go_wp2
  go_loopw [5, 6, 7] (fun p c i wr => ∃ (k c' : Nat) (ds : List Nat), Hid (k ≤ xs.length + ys.length + 1) ∧ i = .int .i64 k ∧ c = .int .u64 (c' : Int) ∧ c' ≤ 1 ∧ Below w.heap.size w wr ∧ rGrow 157 1 rU32 w.heap.size wr p ds ∧ Hid (ds.length = k) ∧ Hid (∀ x ∈ ds, x < 4294967296) ∧
      Hid (limbsVal ds + 4294967296 ^ k * c' = limbsVal (xs.take k) + limbsVal (ys.take k)) ∧ Hid (k = 0 ∨ 4294967296 ^ (k - 1) ≤ x + y) ∧ Hid (c' = 0 ∨ k ≤ xs.length ∨ k ≤ ys.length)) (fun _ _ i _ => xs.length + ys.length + 1 - (intOf i).toNat)
  case atStart => exact ⟨0, 0, [], Nat.zero_le _, rfl, rfl, by omega, Below.refl _ _, rGrow.nil _ _ _ _ _, rfl, fun x hx => by simp at hx, by simp [Hid, limbsVal], .inl rfl, .inl rfl⟩
  case round =>
    obtain ⟨k, c', ds, HK, rfl, rfl, hc', hbw, hg, HL, HD, HV, HT, HC⟩ := hrel
    have hkb : k ≤ 2000000000001 := by have := HK.out; omega
    have e1 := take_succ_getD xs k
    have e2 := take_succ_getD ys k
    have hsz := hbw.size
    by_cases ha : k < xs.length
    · by_cases hb : k < ys.length
      · rcases x4 with rfl | ⟨b1, off1, rfl, x4⟩
        · simp at ha
        obtain ⟨g0, g1⟩ := x4.u32 ha
        rw [← hbw.cell (p := ⟨b1, off1 + k, none⟩) (hS _ x4.1)] at g0
        have ex : xs.getD k 0 = xs[k] := by simp [List.getD, ha]
        rw [ex] at e1
        obtain ⟨X, hX⟩ : ∃ X, X = xs[k] := ⟨_, rfl⟩
        rw [← hX] at e1 g0 g1
        clear ex hX
        rcases y4 with rfl | ⟨b2, off2, rfl, y4⟩
        · simp at hb
        obtain ⟨f0, f1⟩ := y4.u32 hb
        rw [← hbw.cell (p := ⟨b2, off2 + k, none⟩) (hS _ y4.1)] at f0
        have ey : ys.getD k 0 = ys[k] := by simp [List.getD, hb]
        rw [ey] at e2
        obtain ⟨Y, hY⟩ : ∃ X, X = ys[k] := ⟨_, rfl⟩
        rw [← hY] at e2 f0 f1
        clear ey hY
        have E1 := hid e1
        have E2 := hid e2
        clear e1 e2
        obtain ⟨T, hT⟩ : ∃ T, T = c' + X + Y := ⟨_, rfl⟩
        obtain ⟨d, hd⟩ : ∃ d, d = T % 4294967296 := ⟨_, rfl⟩
        obtain ⟨e, he⟩ : ∃ e, e = T / 4294967296 := ⟨_, rfl⟩
        obtain ⟨T1, hT1⟩ : ∃ T, T = c' + X := ⟨_, rfl⟩
        have q1 : IntKind.u64.wrap ((c' : Int) + (X : Int)) = (T1 : Int) := by
          rw [show (c' : Int) + (X : Int) = (T1 : Int) by omega]; exact IntWalk.u64_in _ (by omega)
        have q2 : IntKind.u64.wrap ((T1 : Int) + (Y : Int)) = (T : Int) := by
          rw [show (T1 : Int) + (Y : Int) = (T : Int) by omega]; exact IntWalk.u64_in _ (by omega)
        have hd1 : d < 4294967296 := by omega
        have he1 : e ≤ 1 := by omega
        have q4 : (T : Int) % 4294967296 = (d : Int) := by omega
        have q5 : (T : Int) / 4294967296 = (e : Int) := by omega
        have HDE := hid (show d + 4294967296 * e = c' + X + Y by omega)
        have HK1 := hid (show k + 1 ≤ xs.length + ys.length + 1 by omega)
        have HD1 := hid hd1
        have HEB := hid he1
        have hg2 := hg.kept stays_rU32 ((Below.refl _ _).alloc (Nat.le_refl _) (.cells #[.int .u32 (d : Int)] 157))
        have hy : rU32 (wr.alloc (.cells #[.int .u32 (d : Int)] 157)) (Beside (wr.alloc (.cells #[.int .u32 (d : Int)] 157)) u5) [.int .u32 (d : Int)] d := ⟨rfl, hd1⟩
        clear hT hd he hT1 hd1 he1 hc'
        go_wp2_with (at_builtin; refine wpList_push _ rfl _ _ 150 rfl stays_rU32 w.heap.size 157 1 4 _ Tryz.underlying150 Tryz.infoU32 rfl (by omega) _ ds rfl hg2 ?hbase ?hbytes ?h63 wr.heap.size 1 [.int .u32 (d : Int)] rfl rfl ?hb rfl d hy ?_)
        case hbase => simp; omega
        case hbytes => rw [HL.out]; omega
        case h63 => rw [HL.out]; omega
        case hb => exact ⟨(0, 0), heap_alloc_new _ _⟩
        intro v' w' hg' hgr hbel'
        have hbel2 : Below w.heap.size w w' := (hbw.alloc hsz _).trans hbel'
        clear hy hg2 hg hbel' hgr
        go_wp2
        clear q1 q2 q4 q5
        go_roundw
        case rel =>
          refine ⟨k + 1, e, ds ++ [d], HK1, by go_num, rfl, HEB.out, hbel2, hg', ?_, ?_, ?_, ?_, .inr (.inl ha)⟩
          · show (ds ++ [d]).length = k + 1; simp [HL.out]
          · intro x hx; rcases List.mem_append.1 hx with h | h
            · exact HD.out x h
            · simp at h; have := HD1.out; omega
          · show limbsVal (ds ++ [d]) + 4294967296 ^ (k + 1) * e = limbsVal (xs.take (k + 1)) + limbsVal (ys.take (k + 1))
            rw [limbsVal_snoc, HL.out, E1.out, E2.out, Nat.pow_succ]
            exact plus_arith HDE.out HV.out
          · exact .inr (Nat.le_trans (HPx.out k ha) (Nat.le_add_right _ _))
        case measure => have := HK1.out; simp [intOf]; omega
      · rcases x4 with rfl | ⟨b1, off1, rfl, x4⟩
        · simp at ha
        obtain ⟨g0, g1⟩ := x4.u32 ha
        rw [← hbw.cell (p := ⟨b1, off1 + k, none⟩) (hS _ x4.1)] at g0
        have ex : xs.getD k 0 = xs[k] := by simp [List.getD, ha]
        rw [ex] at e1
        obtain ⟨X, hX⟩ : ∃ X, X = xs[k] := ⟨_, rfl⟩
        rw [← hX] at e1 g0 g1
        clear ex hX
        have ey : ys.getD k 0 = 0 := by simp [List.getD, List.getElem?_eq_none (by omega : ys.length ≤ k)]
        rw [ey] at e2
        clear ey
        have f1 : 0 < 4294967296 := by decide
        have E1 := hid e1
        have E2 := hid e2
        clear e1 e2
        obtain ⟨T, hT⟩ : ∃ T, T = c' + X + 0 := ⟨_, rfl⟩
        obtain ⟨d, hd⟩ : ∃ d, d = T % 4294967296 := ⟨_, rfl⟩
        obtain ⟨e, he⟩ : ∃ e, e = T / 4294967296 := ⟨_, rfl⟩
        have q1 : IntKind.u64.wrap ((c' : Int) + (X : Int)) = (T : Int) := by
          rw [show (c' : Int) + (X : Int) = (T : Int) by omega]; exact IntWalk.u64_in _ (by omega)
        have hd1 : d < 4294967296 := by omega
        have he1 : e ≤ 1 := by omega
        have q4 : (T : Int) % 4294967296 = (d : Int) := by omega
        have q5 : (T : Int) / 4294967296 = (e : Int) := by omega
        have HDE := hid (show d + 4294967296 * e = c' + X + 0 by omega)
        have HK1 := hid (show k + 1 ≤ xs.length + ys.length + 1 by omega)
        have HD1 := hid hd1
        have HEB := hid he1
        have hg2 := hg.kept stays_rU32 ((Below.refl _ _).alloc (Nat.le_refl _) (.cells #[.int .u32 (d : Int)] 157))
        have hy : rU32 (wr.alloc (.cells #[.int .u32 (d : Int)] 157)) (Beside (wr.alloc (.cells #[.int .u32 (d : Int)] 157)) u5) [.int .u32 (d : Int)] d := ⟨rfl, hd1⟩
        clear hT hd he hd1 he1 hc'
        go_wp2_with (at_builtin; refine wpList_push _ rfl _ _ 150 rfl stays_rU32 w.heap.size 157 1 4 _ Tryz.underlying150 Tryz.infoU32 rfl (by omega) _ ds rfl hg2 ?hbase ?hbytes ?h63 wr.heap.size 1 [.int .u32 (d : Int)] rfl rfl ?hb rfl d hy ?_)
        case hbase => simp; omega
        case hbytes => rw [HL.out]; omega
        case h63 => rw [HL.out]; omega
        case hb => exact ⟨(0, 0), heap_alloc_new _ _⟩
        intro v' w' hg' hgr hbel'
        have hbel2 : Below w.heap.size w w' := (hbw.alloc hsz _).trans hbel'
        clear hy hg2 hg hbel' hgr
        go_wp2
        clear q1 q4 q5
        go_roundw
        case rel =>
          refine ⟨k + 1, e, ds ++ [d], HK1, by go_num, rfl, HEB.out, hbel2, hg', ?_, ?_, ?_, ?_, .inr (.inl ha)⟩
          · show (ds ++ [d]).length = k + 1; simp [HL.out]
          · intro x hx; rcases List.mem_append.1 hx with h | h
            · exact HD.out x h
            · simp at h; have := HD1.out; omega
          · show limbsVal (ds ++ [d]) + 4294967296 ^ (k + 1) * e = limbsVal (xs.take (k + 1)) + limbsVal (ys.take (k + 1))
            rw [limbsVal_snoc, HL.out, E1.out, E2.out, Nat.pow_succ]
            exact plus_arith HDE.out HV.out
          · exact .inr (Nat.le_trans (HPx.out k ha) (Nat.le_add_right _ _))
        case measure => have := HK1.out; simp [intOf]; omega
    · by_cases hb : k < ys.length
      · have ex : xs.getD k 0 = 0 := by simp [List.getD, List.getElem?_eq_none (by omega : xs.length ≤ k)]
        rw [ex] at e1
        clear ex
        have g1 : 0 < 4294967296 := by decide
        rcases y4 with rfl | ⟨b2, off2, rfl, y4⟩
        · simp at hb
        obtain ⟨f0, f1⟩ := y4.u32 hb
        rw [← hbw.cell (p := ⟨b2, off2 + k, none⟩) (hS _ y4.1)] at f0
        have ey : ys.getD k 0 = ys[k] := by simp [List.getD, hb]
        rw [ey] at e2
        obtain ⟨Y, hY⟩ : ∃ X, X = ys[k] := ⟨_, rfl⟩
        rw [← hY] at e2 f0 f1
        clear ey hY
        have E1 := hid e1
        have E2 := hid e2
        clear e1 e2
        obtain ⟨T, hT⟩ : ∃ T, T = c' + 0 + Y := ⟨_, rfl⟩
        obtain ⟨d, hd⟩ : ∃ d, d = T % 4294967296 := ⟨_, rfl⟩
        obtain ⟨e, he⟩ : ∃ e, e = T / 4294967296 := ⟨_, rfl⟩
        have q1 : IntKind.u64.wrap ((c' : Int) + (Y : Int)) = (T : Int) := by
          rw [show (c' : Int) + (Y : Int) = (T : Int) by omega]; exact IntWalk.u64_in _ (by omega)
        have hd1 : d < 4294967296 := by omega
        have he1 : e ≤ 1 := by omega
        have q4 : (T : Int) % 4294967296 = (d : Int) := by omega
        have q5 : (T : Int) / 4294967296 = (e : Int) := by omega
        have HDE := hid (show d + 4294967296 * e = c' + 0 + Y by omega)
        have HK1 := hid (show k + 1 ≤ xs.length + ys.length + 1 by omega)
        have HD1 := hid hd1
        have HEB := hid he1
        have hg2 := hg.kept stays_rU32 ((Below.refl _ _).alloc (Nat.le_refl _) (.cells #[.int .u32 (d : Int)] 157))
        have hy : rU32 (wr.alloc (.cells #[.int .u32 (d : Int)] 157)) (Beside (wr.alloc (.cells #[.int .u32 (d : Int)] 157)) u5) [.int .u32 (d : Int)] d := ⟨rfl, hd1⟩
        clear hT hd he hd1 he1 hc'
        go_wp2_with (at_builtin; refine wpList_push _ rfl _ _ 150 rfl stays_rU32 w.heap.size 157 1 4 _ Tryz.underlying150 Tryz.infoU32 rfl (by omega) _ ds rfl hg2 ?hbase ?hbytes ?h63 wr.heap.size 1 [.int .u32 (d : Int)] rfl rfl ?hb rfl d hy ?_)
        case hbase => simp; omega
        case hbytes => rw [HL.out]; omega
        case h63 => rw [HL.out]; omega
        case hb => exact ⟨(0, 0), heap_alloc_new _ _⟩
        intro v' w' hg' hgr hbel'
        have hbel2 : Below w.heap.size w w' := (hbw.alloc hsz _).trans hbel'
        clear hy hg2 hg hbel' hgr
        go_wp2
        clear q1 q4 q5
        go_roundw
        case rel =>
          refine ⟨k + 1, e, ds ++ [d], HK1, by go_num, rfl, HEB.out, hbel2, hg', ?_, ?_, ?_, ?_, .inr (.inr hb)⟩
          · show (ds ++ [d]).length = k + 1; simp [HL.out]
          · intro x hx; rcases List.mem_append.1 hx with h | h
            · exact HD.out x h
            · simp at h; have := HD1.out; omega
          · show limbsVal (ds ++ [d]) + 4294967296 ^ (k + 1) * e = limbsVal (xs.take (k + 1)) + limbsVal (ys.take (k + 1))
            rw [limbsVal_snoc, HL.out, E1.out, E2.out, Nat.pow_succ]
            exact plus_arith HDE.out HV.out
          · exact .inr (Nat.le_trans (HPy.out k hb) (Nat.le_add_left _ _))
        case measure => have := HK1.out; simp [intOf]; omega
      · have ex : xs.getD k 0 = 0 := by simp [List.getD, List.getElem?_eq_none (by omega : xs.length ≤ k)]
        rw [ex] at e1
        clear ex
        have g1 : 0 < 4294967296 := by decide
        have ey : ys.getD k 0 = 0 := by simp [List.getD, List.getElem?_eq_none (by omega : ys.length ≤ k)]
        rw [ey] at e2
        clear ey
        have f1 : 0 < 4294967296 := by decide
        by_cases hc : 0 < c'
        · skip
          have E1 := hid e1
          have E2 := hid e2
          clear e1 e2
          obtain ⟨T, hT⟩ : ∃ T, T = c' + 0 + 0 := ⟨_, rfl⟩
          obtain ⟨d, hd⟩ : ∃ d, d = T % 4294967296 := ⟨_, rfl⟩
          obtain ⟨e, he⟩ : ∃ e, e = T / 4294967296 := ⟨_, rfl⟩
          have hTc : c' = T := by omega
          subst hTc
          have hd1 : d < 4294967296 := by omega
          have he1 : e ≤ 1 := by omega
          have q4 : (c' : Int) % 4294967296 = (d : Int) := by omega
          have q5 : (c' : Int) / 4294967296 = (e : Int) := by omega
          have HDE := hid (show d + 4294967296 * e = c' + 0 + 0 by omega)
          have HP := hid (show 4294967296 ^ k ≤ x + y by
            have h1 := HV.out
            rw [List.take_of_length_le (by omega), List.take_of_length_le (by omega), vx.out, vy.out] at h1
            have := Nat.mul_le_mul_left (4294967296 ^ k) hc
            omega)
          have HE0 := hid (show e = 0 by omega)
          have HK1 := hid (show k + 1 ≤ xs.length + ys.length + 1 by have := HC.out; omega)
          have HD1 := hid hd1
          have HEB := hid he1
          have hg2 := hg.kept stays_rU32 ((Below.refl _ _).alloc (Nat.le_refl _) (.cells #[.int .u32 (d : Int)] 157))
          have hy : rU32 (wr.alloc (.cells #[.int .u32 (d : Int)] 157)) (Beside (wr.alloc (.cells #[.int .u32 (d : Int)] 157)) u5) [.int .u32 (d : Int)] d := ⟨rfl, hd1⟩
          clear hT hd he hd1 he1 hc'
          go_wp2_with (at_builtin; refine wpList_push _ rfl _ _ 150 rfl stays_rU32 w.heap.size 157 1 4 _ Tryz.underlying150 Tryz.infoU32 rfl (by omega) _ ds rfl hg2 ?hbase ?hbytes ?h63 wr.heap.size 1 [.int .u32 (d : Int)] rfl rfl ?hb rfl d hy ?_)
          case hbase => simp; omega
          case hbytes => rw [HL.out]; omega
          case h63 => rw [HL.out]; omega
          case hb => exact ⟨(0, 0), heap_alloc_new _ _⟩
          intro v' w' hg' hgr hbel'
          have hbel2 : Below w.heap.size w w' := (hbw.alloc hsz _).trans hbel'
          clear hy hg2 hg hbel' hgr
          go_wp2
          clear q4 q5
          go_roundw
          case rel =>
            refine ⟨k + 1, e, ds ++ [d], HK1, by go_num, rfl, HEB.out, hbel2, hg', ?_, ?_, ?_, ?_, .inl HE0.out⟩
            · show (ds ++ [d]).length = k + 1; simp [HL.out]
            · intro x hx; rcases List.mem_append.1 hx with h | h
              · exact HD.out x h
              · simp at h; have := HD1.out; omega
            · show limbsVal (ds ++ [d]) + 4294967296 ^ (k + 1) * e = limbsVal (xs.take (k + 1)) + limbsVal (ys.take (k + 1))
              rw [limbsVal_snoc, HL.out, E1.out, E2.out, Nat.pow_succ]
              exact plus_arith HDE.out HV.out
            · exact .inr HP.out
          case measure => have := HK1.out; simp [intOf]; omega
        · have hs : limbsVal ds = x + y := by
            have h1 := HV.out
            have : c' = 0 := by omega
            subst this
            rw [List.take_of_length_le (by omega), List.take_of_length_le (by omega), vx.out, vy.out, Nat.mul_zero] at h1
            exact h1
          have hR := hg.slice stays_rU32
          have hE := limbsOf_eq HL.out HD.out hs HT.out
          rw [← hE] at hR
          have hc0 : c' = 0 := by omega
          subst hc0
          clear hs hg hE
          go_wp2
          go_ret
          exact ⟨_, rfl, hR, hbw⟩

end Go.Proofs.YtogeijhepjcbgaaGreatDoor
end
section
/- insolvencyref1: text: walked. -/
namespace Go.Proofs.YtogeijhepjcbgaaGreatDoor
open Go.RowKit

theorem bytes4 (x : Nat) (hx : x < 4294967296) : bytesVal ([x / 16777216 % 256, x / 65536 % 256, x / 256 % 256, x % 256].map UInt8.ofNat) = x := by
  simp [bytesVal, List.foldl]
  omega

theorem bytes_append4 {bs : List Nat} {x D : Nat} (hx : x < 4294967296) (h : bytesVal (bs.map UInt8.ofNat) = D) : bytesVal ((bs ++ [x / 16777216 % 256, x / 65536 % 256, x / 256 % 256, x % 256]).map UInt8.ofNat) = x + 4294967296 * D := by
  rw [List.map_append, bytesVal_append, bytes4 x hx, h]
  simp
  omega

theorem string_empty {P : Program} {src dst e : TypeId} (hs : P.underlying src = some (.slice e)) (he : P.underlying e = some (.int .u8)) (hd : P.underlying dst = some .string) (w : World) (a : Addr) (cap : Nat) :
    ∃ s : ByteArray, (convert src dst (.slice (some a) 0 cap)).run P w = .ok (.string s) w ∧ s.data.toList = [] := by
  have h5 : (loadCells a 0).run P w = .ok (([] : List Int).map (Value.int .u8)).toArray w := by
    have := run_loadCells (P := P) (w := w) a 0 (fun j => .int .u8 0) (fun j hj => by omega)
    rw [this]; rfl
  refine ⟨_, by rw [run_convert_bytes_string w src dst e _ 0 cap hs he hd, run_bytesToString w a 0 cap _ h5], ?_⟩
  rw [foldl_push]
  simp

theorem string_grow {P : Program} {src dst e : TypeId} (hs : P.underlying src = some (.slice e)) (he : P.underlying e = some (.int .u8)) (hd : P.underlying dst = some .string)
    {w : World} {E base : Nat} {v : Value} {l : List Nat} (h : rGrow E 1 rU8 base w v l) {a : Addr} {c : Nat} (hv : l = [] → v = .slice (some a) 0 c) :
    ∃ s : ByteArray, (convert src dst v).run P w = .ok (.string s) w ∧ s.data.toList = l.map UInt8.ofNat := by
  rcases Nat.eq_zero_or_pos l.length with h0 | h0
  · have : l = [] := List.eq_nil_of_length_eq_zero h0
    rw [hv this]
    obtain ⟨s, h1, h2⟩ := string_empty hs he hd w a c
    exact ⟨s, h1, by rw [h2, this]; rfl⟩
  · exact string_slice hs he hd (h.slice stays_rU8) h0

set_option maxRecDepth 100000 in
set_option maxHeartbeats 1000000 in
theorem rtext_any (S : Nat → Prop) (v : Value) (xs : List Nat) (w : World) (hS : ∀ b, S b → b < w.heap.size) (hl : xs.length ≤ 1000000000000) (hv : rSlice 1 rU32 w S [v] xs) :
    Calls Tryz.prog 103 #[v] w fun e w' => e = .returned (.string (natStr (limbsVal xs))) ∧ Below w.heap.size w w' := by
  have HST := hid (strip_any S v xs w hv)
  have hxs := hid (limbsOf_lt (limbsVal xs))
  have hlen : (limbsOf (limbsVal xs)).length ≤ 1000000000000 := Nat.le_trans (limbsOf_len_le (limbsVal_lt (u32s_lt hv))) hl
  have vv := hid (limbsVal_limbsOf (limbsVal xs))
  generalize limbsVal xs = V at *
  generalize limbsOf V = ys at *
  obtain ⟨n, hn4⟩ : ∃ n : Nat, n = 4 * ys.length := ⟨_, rfl⟩
  have hm1 : (4 : Int) * (ys.length : Int) = (n : Int) := by omega
  have hmk := fun (w : World) => make_cap (P := Tryz.prog) Tryz.underlying94 Tryz.infoU8 w n (by omega) (by omega)
  have hnb : n ≤ 9223372036854775807 := by omega
  have HN := hid hn4
  clear hn4 hv hl
  go_enter Tryz.func103, Tryz.ntmps103
  go_wp2_with fail
  refine Calls.mono HST.out ?_
  rintro e w1 ⟨r, rfl, rfl, hr⟩
  obtain ⟨a, cap, rfl, h1, h2, h3, h4⟩ := u32s_open hr
  clear hr
  go_wp2
  clear hmk
  have hm0 := hid (rGrow.made (α := Nat) 5 rU8 w #[.int .u8 0] n (by unfold maxLen; omega) (Nat.le_refl w.heap.size))
  rw [Nat.mul_one] at hm0
  go_loopw [3, 4, 5] (fun p i _ wr => ∃ (k : Nat) (bs : List Nat), k ≤ ys.length ∧ i = .int .i64 ((k : Int) - 1) ∧ Below w.heap.size w wr ∧ rGrow 5 1 rU8 w.heap.size wr p bs ∧ Hid (bs.length + 4 * k = n) ∧ Hid (bytesVal (bs.map UInt8.ofNat) = limbsVal (ys.drop k)) ∧ Hid (bs = [] → p = .slice (some ⟨w.heap.size, 0, none⟩) 0 n)) (fun _ i _ _ => (intOf i + 1).toNat)
  case atStart =>
    exact ⟨ys.length, [], Nat.le_refl _, rfl, (Below.refl _ _).alloc (Nat.le_refl _) _, hm0.out, by show 0 + _ = _; rw [HN.out]; omega, by show bytesVal [] = _; rw [List.drop_length]; rfl, fun _ => rfl⟩
  case round =>
    obtain ⟨k, bs, hk, rfl, hbw, hg, HL, HV, HE⟩ := hrel
    have hsz := hbw.size
    cases k with
    | zero =>
      obtain ⟨s, hs1, hs2⟩ := string_grow (P := Tryz.prog) Tryz.underlying94 Tryz.underlying5 Tryz.underlying9 hg HE.out
      have hsz2 : s.size ≤ maxLen := by
        have := congrArg List.length hs2
        rw [Array.length_toList] at this
        simp at this
        unfold maxLen
        have h1 : s.size = bs.length := this
        have := HL.out
        omega
      have hval : strVal s = V := by
        unfold strVal
        rw [hs2, HV.out, List.drop_zero]
        exact vv.out
      have HC := hid (rNormalize_any s wr hsz2)
      rw [hval] at HC
      clear hs2 hval
      go_wp2_with fail
      refine Calls.mono HC.out ?_
      rintro e w1 ⟨rfl, rfl⟩
      go_wp2
      go_ret
      exact ⟨rfl, hbw⟩
    | succ k =>
      rw [show (((k + 1 : Nat) : Int) - 1) = (k : Int) by omega]
      have hlt : k < ys.length := by omega
      rcases h4 with rfl | ⟨b, off, rfl, h4⟩
      · simp at hlt
      obtain ⟨g0, g1⟩ := h4.u32 hlt
      rw [← hbw.cell (p := ⟨b, off + k, none⟩) (hS _ h4.1)] at g0
      have hdr : limbsVal (ys.drop k) = ys[k] + 4294967296 * limbsVal (ys.drop (k + 1)) := by rw [List.drop_eq_getElem_cons hlt]; rfl
      obtain ⟨x, hx⟩ : ∃ x, x = ys[k] := ⟨_, rfl⟩
      rw [← hx] at g0 g1 hdr
      have HDR := hid hdr
      clear hx hdr
      obtain ⟨d0, hd0⟩ : ∃ d, d = x / 16777216 := ⟨_, rfl⟩
      obtain ⟨d1, hd1⟩ : ∃ d, d = x / 65536 % 256 := ⟨_, rfl⟩
      obtain ⟨d2, hd2⟩ : ∃ d, d = x / 256 % 256 := ⟨_, rfl⟩
      obtain ⟨d3, hd3⟩ : ∃ d, d = x % 256 := ⟨_, rfl⟩
      have q1 : (x : Int) / 16777216 = (d0 : Int) := by omega
      have q2 : (x : Int) / 65536 % 256 = (d1 : Int) := by omega
      have q3 : (x : Int) / 256 % 256 = (d2 : Int) := by omega
      have q4 : (x : Int) % 256 = (d3 : Int) := by omega
      have HB := hid (bytes_append4 g1 HV.out)
      rw [show x / 16777216 % 256 = d0 by omega, ← hd1, ← hd2, ← hd3] at HB
      have hb0 : d0 < 256 := by omega
      have hb1 : d1 < 256 := by omega
      have hb2 : d2 < 256 := by omega
      have hb3 : d3 < 256 := by omega
      have hg2 := hg.kept stays_rU8 ((Below.refl _ _).alloc (Nat.le_refl _) (.cells #[.int .u8 (d0 : Int), .int .u8 (d1 : Int), .int .u8 (d2 : Int), .int .u8 (d3 : Int)] 5))
      have HH := hid (show d0 < 256 ∧ d1 < 256 ∧ d2 < 256 ∧ d3 < 256 from ⟨hb0, hb1, hb2, hb3⟩)
      clear hd0 hd1 hd2 hd3 hb1 hb2 hb3
      go_wp2_with (at_builtin; refine wpList_pushN _ rfl _ _ 94 rfl stays_rU8 w.heap.size 5 1 _ Tryz.underlying94 Tryz.infoU8 rfl _ bs [d0, d1, d2, d3] rfl hg2 ?hbase ?hbytes ?h63 (Nat.succ_pos 3) wr.heap.size 4 [.int .u8 (d0 : Int), .int .u8 (d1 : Int), .int .u8 (d2 : Int), .int .u8 (d3 : Int)] rfl rfl ?hb rfl ?hy ?_)
      case hbase => simp; omega
      case hbytes => have := HL.out; simp; omega
      case h63 => have := HL.out; simp; omega
      case hb => exact ⟨(0, 0), heap_alloc_new _ _⟩
      case hy =>
        intro j hj
        have hh := HH.out
        have : j = 0 ∨ j = 1 ∨ j = 2 ∨ j = 3 := by simp at hj; omega
        rcases this with rfl | rfl | rfl | rfl
        · exact ⟨rfl, hh.1⟩
        · exact ⟨rfl, hh.2.1⟩
        · exact ⟨rfl, hh.2.2.1⟩
        · exact ⟨rfl, hh.2.2.2⟩
      intro v' w' hg' hgr hbel'
      have hbel2 : Below w.heap.size w w' := (hbw.alloc hsz _).trans hbel'
      clear hg2 hg hbel' hgr
      go_wp2
      go_roundw
      case rel =>
        refine ⟨k, bs ++ [d0, d1, d2, d3], by omega, rfl, hbel2, hg', by have := HL.out; simp [Hid]; omega, ?_, fun h => by simp at h⟩
        exact HB.out.trans HDR.out.symm
      case measure => simp [intOf]

end Go.Proofs.YtogeijhepjcbgaaGreatDoor
end
