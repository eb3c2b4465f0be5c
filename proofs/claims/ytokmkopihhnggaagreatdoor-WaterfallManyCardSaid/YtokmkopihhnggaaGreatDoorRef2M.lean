/- insolvencyref1: order, short: walked. -/
import Derived.Test.YtokmkopihhnggaaGreatDoorNat7M
import Derived.Test.YtokmkopihhnggaaGreatDoorNumM
set_option linter.unusedVariables false
set_option linter.unusedSimpArgs false
set_option linter.defProp false
set_option linter.unnecessarySimpa false
section
/- insolvencyref1: order, short: walked. -/
namespace Go.Proofs.YtokmkopihhnggaaGreatDoor
open Go.RowKit
set_option maxRecDepth 100000 in
set_option maxHeartbeats 1000000 in
theorem order_any (S : Nat → Prop) (u v : Value) (x y : Nat) (w : World) (hS : ∀ b, S b → b < w.heap.size) (hu : rSlice 1 rU32 w S [u] (limbsOf x)) (hv : rSlice 1 rU32 w S [v] (limbsOf y)) :
    Calls Tryz.prog 189 #[u, v] w fun e w' => e = .returned (.int .i64 (natCmp x y)) ∧ Below w.heap.size w w' := by
  obtain ⟨a, cap, rfl, h1, h2, h3, h4⟩ := u32s_open hu
  obtain ⟨a', cap', rfl, h1', h2', h3', h4'⟩ := u32s_open hv
  have hn := len_le h1 h2
  have hn' := len_le h1' h2'
  rcases Nat.lt_trichotomy (limbsOf x).length (limbsOf y).length with hl | hl | hl
  · have hR := hid (natCmp_lt (limbs_len_lt hl))
    have hl' : ((limbsOf x).length != (limbsOf y).length) = true := by simp; omega
    have hl2 : ¬ (((limbsOf x).length : Int) = ((limbsOf y).length : Int)) := by omega
    go_enter Tryz.func189, Tryz.ntmps189
    go_wp2
    go_ret
    exact ⟨ret_int hR.out.symm, Below.refl _ _⟩
  · have HL := hid hl
    rw [← hl]
    clear hl
    go_enter Tryz.func189, Tryz.ntmps189
    go_wp2
    go_loopw [5] (fun i wr => ∃ k : Nat, k ≤ (limbsOf x).length ∧ i = .int .i64 ((k : Int) - 1) ∧ Below w.heap.size w wr ∧ Hid ((limbsOf x).drop k = (limbsOf y).drop k)) (fun i _ => (intOf i + 1).toNat)
    case atStart => exact ⟨_, Nat.le_refl _, rfl, Below.refl _ _, by show (limbsOf x).drop (limbsOf x).length = (limbsOf y).drop (limbsOf x).length; rw [List.drop_length, HL.out, List.drop_length]⟩
    case round =>
      obtain ⟨k, hk, rfl, hbel, HE⟩ := hrel
      cases k with
      | zero =>
        have hxy : x = y := by
          have := HE.out
          rw [List.drop_zero, List.drop_zero] at this
          have := congrArg limbsVal this
          rwa [limbsVal_limbsOf, limbsVal_limbsOf] at this
        have hR : Hid (natCmp x y = 0) := by subst hxy; exact natCmp_eq _
        clear hxy
        go_wp2
        go_ret
        exact ⟨ret_int hR.out.symm, hbel⟩
      | succ k =>
        rw [show (((k + 1 : Nat) : Int) - 1) = (k : Int) by omega]
        have hlt : k < (limbsOf x).length := by omega
        have hlt' : k < (limbsOf y).length := by have := HL.out; omega
        rcases h4 with h4 | ⟨b, off, rfl, h4⟩
        · rw [h4] at hlt; simp at hlt
        rcases h4' with h4' | ⟨b', off', rfl, h4'⟩
        · rw [h4'] at hlt'; simp at hlt'
        obtain ⟨g0, g1⟩ := h4.u32 hlt
        rw [← hbel.cell (p := ⟨b, off + k, none⟩) (hS _ h4.1)] at g0
        obtain ⟨f0, f1⟩ := h4'.u32 hlt'
        rw [← hbel.cell (p := ⟨b', off' + k, none⟩) (hS _ h4'.1)] at f0
        have HX := hid (limbsOf_lt x)
        have HY := hid (limbsOf_lt y)
        have HVX := hid (limbsVal_limbsOf x)
        have HVY := hid (limbsVal_limbsOf y)
        rcases Nat.lt_trichotomy (limbsOf x)[k] (limbsOf y)[k] with hc | hc | hc
        · have hR : Hid (natCmp x y = -1) := natCmp_lt (by rw [← HVX.out, ← HVY.out]; exact limbs_lt_of_top HX.out HL.out k hlt hlt' HE.out hc)
          have q1 : (((limbsOf x)[k] : Int) != ((limbsOf y)[k] : Int)) = true := by rw [bne_iff_ne]; omega
          have q1' : ((limbsOf x)[k] != (limbsOf y)[k]) = true := by rw [bne_iff_ne]; omega
          go_wp2
          go_quiet (fail)
          go_wp2
          go_quiet (fail)
          go_wp2
          go_ret
          exact ⟨ret_int hR.out.symm, (hbel.drewN _).drewN _⟩
        · have q1 : (((limbsOf x)[k] : Int) != ((limbsOf y)[k] : Int)) = false := by simp [hc]
          have q1' : ((limbsOf x)[k] != (limbsOf y)[k]) = false := by simp [hc]
          have HC := hid hc
          clear hc
          go_wp2
          go_quiet (fail)
          go_wp2
          go_roundw
          case rel => exact ⟨k, by omega, rfl, hbel.drewN _, by show (limbsOf x).drop k = (limbsOf y).drop k; rw [List.drop_eq_getElem_cons hlt, List.drop_eq_getElem_cons hlt', HC.out, HE.out]⟩
          case measure => simp [intOf]
        have hR : Hid (natCmp x y = 1) := natCmp_gt (by rw [← HVX.out, ← HVY.out]; exact limbs_lt_of_top HY.out HL.out.symm k hlt' hlt HE.out.symm hc)
        have q1 : (((limbsOf x)[k] : Int) != ((limbsOf y)[k] : Int)) = true := by rw [bne_iff_ne]; omega
        have q1' : ((limbsOf x)[k] != (limbsOf y)[k]) = true := by rw [bne_iff_ne]; omega
        have q2 : ¬ (limbsOf x)[k] < (limbsOf y)[k] := by omega
        go_wp2
        go_quiet (fail)
        go_wp2
        go_quiet (fail)
        go_wp2
        go_ret
        exact ⟨ret_int hR.out.symm, (hbel.drewN _).drewN _⟩
  have hR := hid (natCmp_gt (limbs_len_lt hl))
  have hl' : ((limbsOf x).length != (limbsOf y).length) = true := by simp; omega
  have hl2 : ¬ (((limbsOf x).length : Int) = ((limbsOf y).length : Int)) := by omega
  go_enter Tryz.func189, Tryz.ntmps189
  go_wp2
  go_ret
  exact ⟨ret_int hR.out.symm, Below.refl _ _⟩
set_option maxRecDepth 100000 in
set_option maxHeartbeats 1000000 in
theorem short_any (S : Nat → Prop) (u : Value) (xs : List Nat) (d : Nat) (w : World) (hS : ∀ b, S b → b < w.heap.size) (hl : xs.length ≤ 1000000000000) (hd0 : 0 < d) (hd : d < 4294967296) (hu : rSlice 1 rU32 w S [u] xs) :
    Calls Tryz.prog 234 #[u, .int .u32 d] w fun e w' => ∃ r, e = .returned (.tuple #[r, .int .u32 ((limbsVal xs % d : Nat) : Int)]) ∧ rSlice 1 rU32 w' (LT w'.heap.size) [r] (limbsOf (limbsVal xs / d)) ∧ Below w.heap.size w w' := by
  have hxlt := hid (u32s_lt hu)
  obtain ⟨xa, xc, rfl, x1, x2, x3, x4⟩ := u32s_open hu
  have hn := len_le x1 x2
  have hmk := fun (w : World) => make_one (P := Tryz.prog) Tryz.underlying203 Tryz.infoU32 rfl w xs.length (by omega) (by omega)
  go_enter Tryz.func234, Tryz.ntmps234
  go_wp2
  clear hmk
  go_loopw [7, 8] (fun r i wr => ∃ (k r' : Nat) (o : List Nat) (f : Nat → Value), k ≤ xs.length ∧ i = .int .i64 ((k : Int) - 1) ∧ r = .int .u64 (r' : Int) ∧ r' < d ∧ Below w.heap.size w wr ∧ w.heap.size < wr.heap.size ∧ Own wr w.heap.size 206 xs.length f ∧ Hid (∀ j, f j = .int .u32 ((o.getD j 0 : Nat) : Int)) ∧ Hid (o.length = xs.length) ∧ Hid (∀ x ∈ o, x < 4294967296) ∧
      Hid (limbsVal (xs.drop k) = limbsVal (o.drop k) * d + r')) (fun _ i _ => (intOf i + 1).toNat)
  case atStart =>
    refine ⟨xs.length, 0, List.replicate xs.length 0, _, Nat.le_refl _, rfl, rfl, hd0, (Below.refl _ _).alloc (Nat.le_refl _) _, by simp, Own.new _ _ _ _, fun j => ?_, by simp [Hid], fun x hx => ?_, ?_⟩
    · simp [List.getD, List.getElem?_replicate]; split <;> rfl
    · have := List.eq_of_mem_replicate hx; omega
    show limbsVal (xs.drop xs.length) = _
    rw [List.drop_length, List.drop_of_length_le (by simp)]; simp [limbsVal]
  case round =>
    obtain ⟨k, r', o, f, hk, rfl, rfl, hr', hbw, hsz, hown, HF, HL, HD, HV⟩ := hrel
    cases k with
    | zero =>
      have hs := HV.out
      rw [List.drop_zero, List.drop_zero] at hs
      have hq : limbsVal o = limbsVal xs / d := by rw [hs, Nat.mul_comm, Nat.mul_add_div hd0, Nat.div_eq_of_lt hr']; rfl
      have hrm : limbsVal xs % d = r' := by rw [hs, Nat.mul_comm, Nat.mul_add_mod, Nat.mod_eq_of_lt hr']
      have hR := own_limbs hown HF.out HL.out (by omega) HD.out
      have HT := hid (strip_any _ _ _ _ hR)
      rw [hq] at HT
      have HRM := hid hrm
      clear hs hq hR hrm
      have hr32 : r' < 4294967296 := by omega
      go_wp2_with fail
      refine Calls.mono HT.out ?_
      rintro e' w3 ⟨r, rfl, rfl, hr⟩
      go_wp2
      go_ret2
      exact ⟨r, by rw [HRM.out]; rfl, hr, hbw⟩
    | succ k =>
      rw [show (((k + 1 : Nat) : Int) - 1) = (k : Int) by omega]
      have hlt : k < xs.length := by omega
      rcases x4 with rfl | ⟨b1, off1, rfl, x4⟩
      · simp at hlt
      obtain ⟨g0, g1⟩ := x4.u32 hlt
      rw [← hbw.cell (p := ⟨b1, off1 + k, none⟩) (hS _ x4.1)] at g0
      have c1 := hown.cell hlt
      rw [HF.out k] at c1
      have c2 := hown.frozen k
      have hr32 : r' < 4294967296 := by omega
      obtain ⟨x, hx⟩ : ∃ x, x = xs[k] := ⟨_, rfl⟩
      have HX := hid (show limbsVal (xs.drop k) = x + 4294967296 * limbsVal (xs.drop (k + 1)) by rw [hx, List.drop_eq_getElem_cons hlt]; rfl)
      rw [← hx] at g0 g1
      clear hx
      have o1 := or32_add r' x hr32 g1
      obtain ⟨q, hq⟩ : ∃ q : Nat, q = (r' * 4294967296 + x) / d := ⟨_, rfl⟩
      obtain ⟨r2, hr2⟩ : ∃ r2 : Nat, r2 = (r' * 4294967296 + x) % d := ⟨_, rfl⟩
      have hqr : d * q + r2 = r' * 4294967296 + x := by rw [hq, hr2]; exact Nat.div_add_mod _ _
      have hr2d : r2 < d := by rw [hr2]; exact Nat.mod_lt _ hd0
      have hq32 : q < 4294967296 := by
        rw [hq]
        apply Nat.div_lt_of_lt_mul
        have := Nat.mul_le_mul_right 4294967296 (show r' + 1 ≤ d from hr')
        rw [Nat.add_mul] at this
        omega
      have Q1 := hid (show (((r' : Int) * 4294967296 + (x : Int)) / (d : Int)) % 4294967296 = (q : Int) by
        have : ((r' : Int) * 4294967296 + (x : Int)) / (d : Int) = (q : Int) := by rw [hq, Int.natCast_ediv, Int.natCast_add, Int.natCast_mul]; rfl
        rw [this]; omega)
      have Q2 := hid (show (((r' : Int) * 4294967296 + (x : Int)) % (d : Int)) = (r2 : Int) by rw [hr2, Int.natCast_emod, Int.natCast_add, Int.natCast_mul]; rfl)
      have HQR := hid hqr
      clear hq hr2 hqr
      go_wp2
      clear o1
      go_roundw
      case rel =>
        rw [Q1.out, Q2.out]
        have hko : k < o.length := by rw [HL.out]; exact hlt
        refine ⟨k, r2, o.set k q, upd f k (.int .u32 q), by omega, rfl, rfl, hr2d, hbw.setCell (Nat.le_refl _) _, by simpa using hsz, hown.set _ _, upd_set hko HF.out q, ?_, ?_, ?_⟩
        · show (o.set k q).length = _; simp [HL.out]
        · intro u hu
          rcases List.mem_or_eq_of_mem_set hu with h | h
          · exact HD.out u h
          omega
        show limbsVal (xs.drop k) = limbsVal ((o.set k q).drop k) * d + r2
        have e : (o.set k q).drop k = q :: o.drop (k + 1) := by
          rw [List.drop_eq_getElem_cons (by simpa using hko), List.drop_set_of_lt (by omega)]
          simp
        rw [HX.out, HV.out, e]
        show _ = (q + 4294967296 * limbsVal (o.drop (k + 1))) * d + r2
        have h1 := HQR.out
        rw [Nat.add_mul, Nat.mul_add, Nat.mul_assoc 4294967296, Nat.mul_comm q d]
        omega
      case measure => simp [intOf]
end Go.Proofs.YtokmkopihhnggaaGreatDoor
end
section
/- insolvencyref1: times: walked. -/
namespace Go.Proofs.YtokmkopihhnggaaGreatDoor
open Go.RowKit
end Go.Proofs.YtokmkopihhnggaaGreatDoor
end
section
/- insolvencyref1: minus: walked. -/
namespace Go.Proofs.YtokmkopihhnggaaGreatDoor
open Go.RowKit
end Go.Proofs.YtokmkopihhnggaaGreatDoor
end
section
/- insolvencyref1: plus: walked. -/
namespace Go.Proofs.YtokmkopihhnggaaGreatDoor
open Go.RowKit
end Go.Proofs.YtokmkopihhnggaaGreatDoor
end
section
/- insolvencyref1: text: walked. -/
namespace Go.Proofs.YtokmkopihhnggaaGreatDoor
open Go.RowKit
theorem bytes4 (x : Nat) (hx : x < 4294967296) : bytesVal ([x / 16777216 % 256, x / 65536 % 256, x / 256 % 256, x % 256].map UInt8.ofNat) = x := by
  simp [bytesVal, List.foldl]
  omega
theorem bytes_append4 {bs : List Nat} {x D : Nat} (hx : x < 4294967296) (h : bytesVal (bs.map UInt8.ofNat) = D) : bytesVal ((bs ++ [x / 16777216 % 256, x / 65536 % 256, x / 256 % 256, x % 256]).map UInt8.ofNat) = x + 4294967296 * D := by
  rw [List.map_append, bytesVal_append, bytes4 x hx, h]
  simp
  omega
theorem string_empty {P : Program} {src dst e : TypeId} (hs : P.underlying src = some (.slice e)) (he : P.underlying e = some (.int .u8)) (hd : P.underlying dst = some .string) (w : World) (a : Addr) (cap : Nat) :
    ∃ s : ByteArray, (convert src dst (.slice (some a) 0 cap)).run P w = .ok (.string s) w ∧ s.data.toList = [] := by
  have h5 : (loadCells a 0).run P w = .ok (([] : List Int).map (Value.int .u8)).toArray w := by
    have := run_loadCells (P := P) (w := w) a 0 (fun j => .int .u8 0) (fun j hj => by omega)
    rw [this]; rfl
  refine ⟨_, by rw [run_convert_bytes_string w src dst e _ 0 cap hs he hd, run_bytesToString w a 0 cap _ h5], ?_⟩
  rw [foldl_push]
  simp
theorem string_grow {P : Program} {src dst e : TypeId} (hs : P.underlying src = some (.slice e)) (he : P.underlying e = some (.int .u8)) (hd : P.underlying dst = some .string)
    {w : World} {E base : Nat} {v : Value} {l : List Nat} (h : rGrow E 1 rU8 base w v l) {a : Addr} {c : Nat} (hv : l = [] → v = .slice (some a) 0 c) :
    ∃ s : ByteArray, (convert src dst v).run P w = .ok (.string s) w ∧ s.data.toList = l.map UInt8.ofNat := by
  rcases Nat.eq_zero_or_pos l.length with h0 | h0
  · have : l = [] := List.eq_nil_of_length_eq_zero h0
    rw [hv this]
    obtain ⟨s, h1, h2⟩ := string_empty hs he hd w a c
    exact ⟨s, h1, by rw [h2, this]; rfl⟩
  exact string_slice hs he hd (h.slice stays_rU8) h0
set_option maxRecDepth 100000 in
set_option maxHeartbeats 1000000 in
theorem rtext_any (S : Nat → Prop) (v : Value) (xs : List Nat) (w : World) (hS : ∀ b, S b → b < w.heap.size) (hl : xs.length ≤ 1000000000000) (hv : rSlice 1 rU32 w S [v] xs) :
    Calls Tryz.prog 151 #[v] w fun e w' => e = .returned (.string (natStr (limbsVal xs))) ∧ Below w.heap.size w w' := by
  have HST := hid (strip_any S v xs w hv)
  have hxs := hid (limbsOf_lt (limbsVal xs))
  have hlen : (limbsOf (limbsVal xs)).length ≤ 1000000000000 := Nat.le_trans (limbsOf_len_le (limbsVal_lt (u32s_lt hv))) hl
  have vv := hid (limbsVal_limbsOf (limbsVal xs))
  generalize limbsVal xs = V at *
  generalize limbsOf V = ys at *
  obtain ⟨n, hn4⟩ : ∃ n : Nat, n = 4 * ys.length := ⟨_, rfl⟩
  have hm1 : (4 : Int) * (ys.length : Int) = (n : Int) := by omega
  have hmk := fun (w : World) => make_cap (P := Tryz.prog) Tryz.underlying236 Tryz.infoU8 w n (by omega) (by omega)
  have hnb : n ≤ 9223372036854775807 := by omega
  have HN := hid hn4
  clear hn4 hv hl
  go_enter Tryz.func151, Tryz.ntmps151
  go_wp2_with fail
  refine Calls.mono HST.out ?_
  rintro e w1 ⟨r, rfl, rfl, hr⟩
  obtain ⟨a, cap, rfl, h1, h2, h3, h4⟩ := u32s_open hr
  clear hr
  go_wp2
  clear hmk
  have hm0 := hid (rGrow.made (α := Nat) 5 rU8 w #[.int .u8 0] n (by unfold maxLen; omega) (Nat.le_refl w.heap.size))
  rw [Nat.mul_one] at hm0
  go_loopw [3, 4, 5] (fun p i _ wr => ∃ (k : Nat) (bs : List Nat), k ≤ ys.length ∧ i = .int .i64 ((k : Int) - 1) ∧ Below w.heap.size w wr ∧ rGrow 5 1 rU8 w.heap.size wr p bs ∧ Hid (bs.length + 4 * k = n) ∧ Hid (bytesVal (bs.map UInt8.ofNat) = limbsVal (ys.drop k)) ∧ Hid (bs = [] → p = .slice (some ⟨w.heap.size, 0, none⟩) 0 n)) (fun _ i _ _ => (intOf i + 1).toNat)
  case atStart =>
    exact ⟨ys.length, [], Nat.le_refl _, rfl, (Below.refl _ _).alloc (Nat.le_refl _) _, hm0.out, by show 0 + _ = _; rw [HN.out]; omega, by show bytesVal [] = _; rw [List.drop_length]; rfl, fun _ => rfl⟩
  case round =>
    obtain ⟨k, bs, hk, rfl, hbw, hg, HL, HV, HE⟩ := hrel
    have hsz := hbw.size
    cases k with
    | zero =>
      obtain ⟨s, hs1, hs2⟩ := string_grow (P := Tryz.prog) Tryz.underlying236 Tryz.underlying5 Tryz.underlying9 hg HE.out
      have hsz2 : s.size ≤ maxLen := by
        have := congrArg List.length hs2
        rw [Array.length_toList] at this
        simp at this
        unfold maxLen
        have h1 : s.size = bs.length := this
        have := HL.out
        omega
      have hval : strVal s = V := by
        unfold strVal
        rw [hs2, HV.out, List.drop_zero]
        exact vv.out
      have HC := hid (rNormalize_any s wr hsz2)
      rw [hval] at HC
      clear hs2 hval
      go_wp2_with fail
      refine Calls.mono HC.out ?_
      rintro e w1 ⟨rfl, rfl⟩
      go_wp2
      go_ret
      exact ⟨rfl, hbw⟩
    | succ k =>
      rw [show (((k + 1 : Nat) : Int) - 1) = (k : Int) by omega]
      have hlt : k < ys.length := by omega
      rcases h4 with rfl | ⟨b, off, rfl, h4⟩
      · simp at hlt
      obtain ⟨g0, g1⟩ := h4.u32 hlt
      rw [← hbw.cell (p := ⟨b, off + k, none⟩) (hS _ h4.1)] at g0
      have hdr : limbsVal (ys.drop k) = ys[k] + 4294967296 * limbsVal (ys.drop (k + 1)) := by rw [List.drop_eq_getElem_cons hlt]; rfl
      obtain ⟨x, hx⟩ : ∃ x, x = ys[k] := ⟨_, rfl⟩
      rw [← hx] at g0 g1 hdr
      have HDR := hid hdr
      clear hx hdr
      obtain ⟨d0, hd0⟩ : ∃ d, d = x / 16777216 := ⟨_, rfl⟩
      obtain ⟨d1, hd1⟩ : ∃ d, d = x / 65536 % 256 := ⟨_, rfl⟩
      obtain ⟨d2, hd2⟩ : ∃ d, d = x / 256 % 256 := ⟨_, rfl⟩
      obtain ⟨d3, hd3⟩ : ∃ d, d = x % 256 := ⟨_, rfl⟩
      have q1 : (x : Int) / 16777216 = (d0 : Int) := by omega
      have q2 : (x : Int) / 65536 % 256 = (d1 : Int) := by omega
      have q3 : (x : Int) / 256 % 256 = (d2 : Int) := by omega
      have q4 : (x : Int) % 256 = (d3 : Int) := by omega
      have HB := hid (bytes_append4 g1 HV.out)
      rw [show x / 16777216 % 256 = d0 by omega, ← hd1, ← hd2, ← hd3] at HB
      have hb0 : d0 < 256 := by omega
      have hb1 : d1 < 256 := by omega
      have hb2 : d2 < 256 := by omega
      have hb3 : d3 < 256 := by omega
      have hg2 := hg.kept stays_rU8 ((Below.refl _ _).alloc (Nat.le_refl _) (.cells #[.int .u8 (d0 : Int), .int .u8 (d1 : Int), .int .u8 (d2 : Int), .int .u8 (d3 : Int)] 5))
      have HH := hid (show d0 < 256 ∧ d1 < 256 ∧ d2 < 256 ∧ d3 < 256 from ⟨hb0, hb1, hb2, hb3⟩)
      clear hd0 hd1 hd2 hd3 hb1 hb2 hb3
      go_wp2_with (at_builtin; refine wpList_pushN _ rfl _ _ 236 rfl stays_rU8 w.heap.size 5 1 _ Tryz.underlying236 Tryz.infoU8 rfl _ bs [d0, d1, d2, d3] rfl hg2 ?hbase ?hbytes ?h63 (Nat.succ_pos 3) wr.heap.size 4 [.int .u8 (d0 : Int), .int .u8 (d1 : Int), .int .u8 (d2 : Int), .int .u8 (d3 : Int)] rfl rfl ?hb rfl ?hy ?_)
      case hbase => simp; omega
      case hbytes => have := HL.out; simp; omega
      case h63 => have := HL.out; simp; omega
      case hb => exact ⟨(0, 0), heap_alloc_new _ _⟩
      case hy =>
        intro j hj
        have hh := HH.out
        have : j = 0 ∨ j = 1 ∨ j = 2 ∨ j = 3 := by simp at hj; omega
        rcases this with rfl | rfl | rfl | rfl
        · exact ⟨rfl, hh.1⟩
        · exact ⟨rfl, hh.2.1⟩
        · exact ⟨rfl, hh.2.2.1⟩
        exact ⟨rfl, hh.2.2.2⟩
      intro v' w' hg' hgr hbel'
      have hbel2 : Below w.heap.size w w' := (hbw.alloc hsz _).trans hbel'
      clear hg2 hg hbel' hgr
      go_wp2
      go_roundw
      case rel =>
        refine ⟨k, bs ++ [d0, d1, d2, d3], by omega, rfl, hbel2, hg', by have := HL.out; simp [Hid]; omega, ?_, fun h => by simp at h⟩
        exact HB.out.trans HDR.out.symm
      case measure => simp [intOf]
end Go.Proofs.YtokmkopihhnggaaGreatDoor
end
section
/- natural: shift, unshift: walked. -/
namespace Go.Proofs.YtokmkopihhnggaaGreatDoor
open Go.RowKit
def OwnL (w : World) (g : Nat) (n : Nat) (o : List Nat) : Prop := o.length = n ∧ (∀ x ∈ o, x < 4294967296) ∧ ∃ f, Own w g 206 n f ∧ ∀ j, f j = .int .u32 ((o.getD j 0 : Nat) : Int)
theorem OwnL.cell {w : World} {g n : Nat} {o : List Nat} (h : OwnL w g n o) {j : Nat} (hj : j < o.length) : w.cell? ⟨g, j, none⟩ = some (.int .u32 (o[j] : Nat)) := by
  obtain ⟨h1, _, f, h2, h3⟩ := h
  rw [h2.cell (by omega), h3 j]
  simp [List.getD, hj]
theorem OwnL.frozen {w : World} {g n : Nat} {o : List Nat} (h : OwnL w g n o) (j : Nat) : w.frozen? ⟨g, j, none⟩ = false := h.2.2.choose_spec.1.frozen j
theorem OwnL.set {w : World} {g n : Nat} {o : List Nat} (h : OwnL w g n o) {p d : Nat} (hp : p < o.length) (hd : d < 4294967296) : OwnL (w.setCell ⟨g, p, none⟩ (.int .u32 d)) g n (o.set p d) := by
  obtain ⟨h1, h2, f, h3, h4⟩ := h
  refine ⟨by simpa using h1, fun x hx => ?_, _, h3.set p _, upd_set hp h4 d⟩
  rcases List.mem_or_eq_of_mem_set hx with h | h
  · exact h2 x h
  omega
theorem OwnL.below {w w' : World} {B g n : Nat} {o : List Nat} (h : OwnL w g n o) (hb : Below B w w') (hg : g < B) : OwnL w' g n o := ⟨h.1, h.2.1, h.2.2.choose, h.2.2.choose_spec.1.below hb hg, h.2.2.choose_spec.2⟩
theorem OwnL.drew {w : World} {g n : Nat} {o : List Nat} (h : OwnL w g n o) : OwnL w.drew g n o := h
theorem OwnL.lt {w : World} {g n : Nat} {o : List Nat} (h : OwnL w g n o) : g < w.heap.size := h.2.2.choose_spec.1.lt
theorem OwnL.new (w : World) (n : Nat) : OwnL (w.alloc (.cells ((Array.range n).map fun _ => .int .u32 0) 206)) w.heap.size n (List.replicate n 0) := by
  refine ⟨by simp, fun x hx => by have := List.eq_of_mem_replicate hx; omega, _, Own.new _ _ _ _, fun j => ?_⟩
  simp [List.getD, List.getElem?_replicate]; split <;> rfl
theorem OwnL.slice {w : World} {g n : Nat} {o : List Nat} (h : OwnL w g n o) (hn : n ≤ 9223372036854775807) : rSlice 1 rU32 w (LT w.heap.size) [.slice (some ⟨g, 0, none⟩) n n] o :=
  own_limbs h.2.2.choose_spec.1 h.2.2.choose_spec.2 h.1 hn h.2.1
theorem pow2_lt {s : Nat} (hs : s < 32) : 2 ^ s ≤ 2147483648 := by
  have := Nat.pow_le_pow_right (n := 2) (by decide) (show s ≤ 31 by omega)
  exact this
theorem shl_bits {x c s : Nat} (hx : x < 4294967296) (hs : s < 32) (hc : c < 2 ^ s) :
    ∃ lo hi : Nat, bits .or .u32 (c : Int) (IntKind.u64.wrap ((x : Int) * 2 ^ s) % 4294967296) = ((c + lo : Nat) : Int) ∧
    bits .or .u32 (0 : Int) (IntKind.u64.wrap ((x : Int) * 2 ^ s) / 4294967296 % 4294967296) = (hi : Int) ∧ c + lo < 4294967296 ∧ hi < 2 ^ s ∧ 4294967296 * hi + lo = x * 2 ^ s := by
  have hp := pow2_lt hs
  have ht : x * 2 ^ s ≤ 4294967295 * 2147483648 := Nat.mul_le_mul (by omega) hp
  have e1 : (x : Int) * 2 ^ s = ((x * 2 ^ s : Nat) : Int) := by rw [Int.natCast_mul, Int.natCast_pow]; rfl
  have e2 : IntKind.u64.wrap ((x : Int) * 2 ^ s) = ((x * 2 ^ s : Nat) : Int) := by rw [e1]; exact IntWalk.u64_in _ (by omega)
  have hW : 4294967296 = 2 ^ (32 - s) * 2 ^ s := by rw [← Nat.pow_add, show 32 - s + s = 32 by omega]
  have hlo : x * 2 ^ s % 4294967296 = x % 2 ^ (32 - s) * 2 ^ s := by
    conv => lhs; rw [hW]
    exact Nat.mul_mod_mul_right _ _ _
  have hhi : x * 2 ^ s / 4294967296 < 2 ^ s := by
    apply Nat.div_lt_of_lt_mul
    exact Nat.mul_lt_mul_of_pos_right hx (Nat.pow_pos (by decide))
  have hlo2 : x * 2 ^ s % 4294967296 < 4294967296 := Nat.mod_lt _ (by decide)
  have hor : c ||| x * 2 ^ s % 4294967296 = c + x * 2 ^ s % 4294967296 := by rw [hlo, or_add c _ s hc]; omega
  have hsum : c + x * 2 ^ s % 4294967296 < 4294967296 := by
    rw [hlo]
    have h1 : (x % 2 ^ (32 - s) + 1) * 2 ^ s ≤ 2 ^ (32 - s) * 2 ^ s := Nat.mul_le_mul_right _ (Nat.mod_lt _ (Nat.pow_pos (by decide)))
    rw [← hW, Nat.add_mul] at h1
    omega
  generalize hT : x * 2 ^ s = T at *
  refine ⟨T % 4294967296, T / 4294967296, ?_, ?_, hsum, hhi, Nat.div_add_mod _ _⟩
  · rw [e2, show ((T : Int) % 4294967296) = ((T % 4294967296 : Nat) : Int) by omega, u32_or_nat _ _ (by omega) hlo2, hor]
  rw [e2, show ((T : Int) / 4294967296 % 4294967296) = ((T / 4294967296 : Nat) : Int) by omega, show (0 : Int) = ((0 : Nat) : Int) from rfl, u32_or_nat _ _ (by omega) (by omega)]
  simp
set_option maxRecDepth 100000 in
set_option maxHeartbeats 1000000 in
theorem shift_any (S : Nat → Prop) (u : Value) (xs : List Nat) (s n : Nat) (w : World) (hS : ∀ b, S b → b < w.heap.size) (hn : n ≤ 1000000000000) (hs : s < 32) (hxn : xs.length ≤ n) (hv : limbsVal xs * 2 ^ s < 4294967296 ^ n) (hu : rSlice 1 rU32 w S [u] xs) :
    Calls Tryz.prog 214 #[u, .int .u64 s, .int .i64 n] w fun e w' => ∃ g o, e = .returned (.slice (some ⟨g, 0, none⟩) n n) ∧ w.heap.size ≤ g ∧ OwnL w' g n o ∧ limbsVal o = limbsVal xs * 2 ^ s ∧ Below w.heap.size w w' := by
  have hxlt := hid (u32s_lt hu)
  obtain ⟨xa, xc, rfl, x1, x2, x3, x4⟩ := u32s_open hu
  have hn' := len_le x1 x2
  have hmk := fun (w : World) => make_one (P := Tryz.prog) Tryz.underlying204 Tryz.infoU32 rfl w n (by omega) (by omega)
  have HV := hid hv
  clear hv
  go_enter Tryz.func214, Tryz.ntmps214
  go_wp2
  clear hmk
  go_loopw [8, 9, 10, 15] (fun _ _ _ i wr => ∃ (k : Nat) (o : List Nat), k ≤ xs.length ∧ i = .int .i64 k ∧ Below w.heap.size w wr ∧ OwnL wr w.heap.size n o ∧
      Hid (limbsVal o = limbsVal (xs.take k) * 2 ^ s) ∧ Hid (∀ j, k < j → o.getD j 0 = 0) ∧ Hid (o.getD k 0 < 2 ^ s)) (fun _ _ _ i _ => xs.length - (intOf i).toNat)
  case atStart =>
    refine ⟨0, _, Nat.zero_le _, rfl, (Below.refl _ _).alloc (Nat.le_refl _) _, OwnL.new _ _, ?_, fun j _ => ?_, ?_⟩
    · show limbsVal _ = limbsVal (xs.take 0) * 2 ^ s; rw [limbsVal_zeros]; simp [limbsVal]
    · simp [List.getD, List.getElem?_replicate]; split <;> rfl
    show (List.replicate n 0).getD 0 0 < 2 ^ s
    have : (List.replicate n 0).getD 0 0 = 0 := by simp [List.getD, List.getElem?_replicate]; split <;> rfl
    rw [this]; exact Nat.pow_pos (by decide)
  case round =>
    obtain ⟨k, o, hk, rfl, hbw, hown, HE, HZ, HC⟩ := hrel
    by_cases hlt : k < xs.length
    · rcases x4 with rfl | ⟨b1, off1, rfl, x4⟩
      · simp at hlt
      obtain ⟨g0, g1⟩ := x4.u32 hlt
      rw [← hbw.cell (p := ⟨b1, off1 + k, none⟩) (hS _ x4.1)] at g0
      have hko : k < o.length := by rw [hown.1]; omega
      have c1 := hown.cell hko
      have c2 := hown.frozen k
      have ek : o.getD k 0 = o[k] := by simp [List.getD, hko]
      have hck := HC.out
      rw [ek] at hck
      obtain ⟨lo, hi, b1', b2', b3', b4', hdm⟩ := shl_bits (x := xs[k]) (c := o[k]) g1 hs hck
      have HT := hid (limbsVal_take_succ xs k hlt)
      have HS := hid (fun d => limbsVal_set o k d hko)
      have HDM := hid hdm
      have B1 := hid b1'
      have B2 := hid b2'
      have B3 := hid b3'
      have B4 := hid b4'
      have CK := hid hck
      clear b1' b2' b3' b4' hck ek hdm
      by_cases hk1 : k + 1 < n
      · have hko1 : k + 1 < o.length := by rw [hown.1]; omega
        have e0 : o[k + 1] = 0 := by have := HZ.out (k + 1) (by omega); simpa [List.getD, hko1] using this
        have c3 := hown.cell hko1
        rw [e0] at c3
        have E0 := hid e0
        clear e0
        have c4 := hown.frozen (k + 1)
        go_wp2
        go_roundw
        case rel =>
          rw [B1.out, B2.out]
          have h2 : x2 = x2 := rfl
          refine ⟨k + 1, (o.set k (o[k] + lo)).set (k + 1) (hi), by omega, by go_num, (hbw.setCell (Nat.le_refl _) _).setCell (Nat.le_refl _) _,
            (hown.set hko B3.out).set (by simpa using hko1) (by have := B4.out; have := pow2_lt hs; omega), ?_, fun j hj => ?_, ?_⟩
          · show limbsVal _ = _
            have h1 := limbsVal_set (o.set k (o[k] + lo)) (k + 1) (hi) (by simpa using hko1)
            have h3 := HS.out (o[k] + lo)
            have h4 : (o.set k (o[k] + lo))[k + 1]'(by simpa using hko1) = 0 := by rw [List.getElem_set_ne (by omega)]; exact E0.out
            rw [h4] at h1
            rw [HT.out, Nat.add_mul, ← HE.out, Nat.mul_assoc, ← HDM.out, Nat.mul_add, ← Nat.mul_assoc, ← Nat.pow_succ, Nat.succ_eq_add_one]
            rw [Nat.mul_add] at h3
            omega
          · have := HZ.out j (by omega)
            simpa [List.getD, List.getElem?_set, show ¬ k = j by omega, show ¬ k + 1 = j by omega] using this
          show ((o.set k _).set (k + 1) _).getD (k + 1) 0 < 2 ^ s
          simp [List.getD, hko1]
          exact B4.out
        case measure => simp [intOf]; omega
      have hn1 : n = k + 1 := by omega
      have HN1 := hid hn1
      clear hn1
      go_wp2
      go_roundw
      case rel =>
        rw [B1.out]
        have hfull : xs.take (k + 1) = xs := List.take_of_length_le (by omega)
        have hV := HV.out
        have hsmall : hi = 0 := by
          have hlt' : xs[k] * 2 ^ s < 4294967296 := by
            have h5 := HT.out
            rw [hfull] at h5
            rw [h5, HN1.out, Nat.add_mul, ← HE.out, Nat.mul_assoc, Nat.pow_succ] at hV
            exact Nat.lt_of_mul_lt_mul_left (a := 4294967296 ^ k) (by omega)
          have := HDM.out
          omega
        refine ⟨k + 1, o.set k (o[k] + lo), by omega, by go_num, hbw.setCell (Nat.le_refl _) _, hown.set hko B3.out, ?_, fun j hj => ?_, ?_⟩
        · show limbsVal _ = _
          have h3 := HS.out (o[k] + lo)
          have h6 := HDM.out
          rw [hsmall, Nat.mul_zero, Nat.zero_add] at h6
          rw [HT.out, Nat.add_mul, ← HE.out, Nat.mul_assoc, ← h6]
          rw [Nat.mul_add] at h3
          omega
        · have := HZ.out j (by omega)
          simpa [List.getD, List.getElem?_set, show ¬ k = j by omega] using this
        show (o.set k _).getD (k + 1) 0 < 2 ^ s
        have h7 : (o.set k (o[k] + lo)).length ≤ k + 1 := by have := hown.1; have := HN1.out; simp; omega
        simp only [List.getD, List.getElem?_eq_none h7, Option.getD_none]
        exact Nat.pow_pos (by decide)
      case measure => simp [intOf]; omega
    have hs' : limbsVal o = limbsVal xs * 2 ^ s := by have := HE.out; rwa [List.take_of_length_le (by omega)] at this
    have HS' := hid hs'
    clear hs'
    go_wp2
    go_ret
    exact ⟨_, o, rfl, Nat.le_refl _, hown, HS'.out, hbw⟩
end Go.Proofs.YtokmkopihhnggaaGreatDoor
end
