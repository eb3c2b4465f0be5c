/- insolvencyref1: minus: walked. -/
import Derived.Test.YtokmkopihhnggaaGreatDoorRef1M
import Derived.Test.YtokmkopihhnggaaGreatDoorNumM
import Derived.Shelf.Small.Bits
import Derived.Shelf.Small.Strs
import Derived.Test.YtokmkopihhnggaaGreatDoorProg
set_option linter.unusedVariables false
set_option linter.unusedSimpArgs false
set_option linter.unusedSectionVars false
namespace Go.Proofs.YtokmkopihhnggaaGreatDoor
open Go.RowKit


theorem bytes4 (x : Nat) (hx : x < 4294967296) : bytesVal ([x / 16777216 % 256, x / 65536 % 256, x / 256 % 256, x % 256].map UInt8.ofNat) = x := by
 simp [bytesVal, List.foldl]
 omega
theorem bytes_append4 {bs : List Nat} {x D : Nat} (hx : x < 4294967296) (h : bytesVal (bs.map UInt8.ofNat) = D) : bytesVal ((bs ++ [x / 16777216 % 256, x / 65536 % 256, x / 256 % 256, x % 256]).map UInt8.ofNat) = x + 4294967296 * D := by
 rw [List.map_append, bytesVal_append, bytes4 x hx, h]
 simp
 omega
theorem string_empty {P : Program} {src dst e : TypeId} (hs : P.underlying src = some (.slice e)) (he : P.underlying e = some (.int .u8)) (hd : P.underlying dst = some .string) (w : World) (a : Addr) (cap : Nat) :
  ∃ s : ByteArray, (convert src dst (.slice (some a) 0 cap)).run P w = .ok (.string s) w ∧ s.data.toList = [] := by
 have h5 : (loadCells a 0).run P w = .ok (([] : List Int).map (Value.int .u8)).toArray w := by
  have := run_loadCells (P := P) (w := w) a 0 (fun j => .int .u8 0) (fun j hj => by omega)
  rw [this]; rfl
 refine ⟨_, by rw [run_convert_bytes_string w src dst e _ 0 cap hs he hd, run_bytesToString w a 0 cap _ h5], ?_⟩
 rw [foldl_push]
 simp
theorem string_grow {P : Program} {src dst e : TypeId} (hs : P.underlying src = some (.slice e)) (he : P.underlying e = some (.int .u8)) (hd : P.underlying dst = some .string)
  {w : World} {E base : Nat} {v : Value} {l : List Nat} (h : rGrow E 1 rU8 base w v l) {a : Addr} {c : Nat} (hv : l = [] → v = .slice (some a) 0 c) :
  ∃ s : ByteArray, (convert src dst v).run P w = .ok (.string s) w ∧ s.data.toList = l.map UInt8.ofNat := by
 rcases Nat.eq_zero_or_pos l.length with h0 | h0
 ·have : l = [] := List.eq_nil_of_length_eq_zero h0
  rw [hv this]
  obtain ⟨s, h1, h2⟩ := string_empty hs he hd w a c
  exact ⟨s, h1, by rw [h2, this]; rfl⟩
 exact string_slice hs he hd (h.slice stays_rU8) h0
set_option maxRecDepth 100000 in
set_option maxHeartbeats 1000000 in
theorem rtext_any (S : Nat → Prop) (v : Value) (xs : List Nat) (w : World) (hS : ∀ b, S b → b < w.heap.size) (hl : xs.length ≤ 1000000000000) (hv : rSlice 1 rU32 w S [v] xs) :
  Calls Tryz.prog 151 #[v] w fun e w' => e = .returned (.string (natStr (limbsVal xs))) ∧ Below w.heap.size w w' := by
 have HST := hid (strip_any S v xs w hv)
 have hxs := hid (limbsOf_lt (limbsVal xs))
 have hlen : (limbsOf (limbsVal xs)).length ≤ 1000000000000 := Nat.le_trans (limbsOf_len_le (limbsVal_lt (u32s_lt hv))) hl
 have vv := hid (limbsVal_limbsOf (limbsVal xs))
 generalize limbsVal xs = V at *
 generalize limbsOf V = ys at *
 obtain ⟨n, hn4⟩ : ∃ n : Nat, n = 4 * ys.length := ⟨_, rfl⟩
 have hm1 : (4 : Int) * (ys.length : Int) = (n : Int) := by omega
 have hmk := fun (w : World) => make_cap (P := Tryz.prog) Tryz.underlying236 Tryz.infoU8 w n (by omega) (by omega)
 have hnb : n ≤ 9223372036854775807 := by omega
 have HN := hid hn4
 clear hn4 hv hl
 go_enter Tryz.func151, Tryz.ntmps151
 go_wp2_with fail
 refine Calls.mono HST.out ?_
 rintro e w1 ⟨r, rfl, rfl, hr⟩
 obtain ⟨a, cap, rfl, h1, h2, h3, h4⟩ := u32s_open hr
 clear hr
 go_wp2
 clear hmk
 have hm0 := hid (rGrow.made (α := Nat) 5 rU8 w #[.int .u8 0] n (by unfold maxLen; omega) (Nat.le_refl w.heap.size))
 rw [Nat.mul_one] at hm0
 go_loopw [3, 4, 5] (fun p i _ wr => ∃ (k : Nat) (bs : List Nat), k ≤ ys.length ∧ i = .int .i64 ((k : Int) - 1) ∧ Below w.heap.size w wr ∧ rGrow 5 1 rU8 w.heap.size wr p bs ∧ Hid (bs.length + 4 * k = n) ∧ Hid (bytesVal (bs.map UInt8.ofNat) = limbsVal (ys.drop k)) ∧ Hid (bs = [] → p = .slice (some ⟨w.heap.size, 0, none⟩) 0 n)) (fun _ i _ _ => (intOf i + 1).toNat)
 case atStart =>
  exact ⟨ys.length, [], Nat.le_refl _, rfl, (Below.refl _ _).alloc (Nat.le_refl _) _, hm0.out, by show 0 + _ = _; rw [HN.out]; omega, by show bytesVal [] = _; rw [List.drop_length]; rfl, fun _ => rfl⟩
 case round =>
  obtain ⟨k, bs, hk, rfl, hbw, hg, HL, HV, HE⟩ := hrel
  have hsz := hbw.size
  cases k with
  | zero =>
   obtain ⟨s, hs1, hs2⟩ := string_grow (P := Tryz.prog) Tryz.underlying236 Tryz.underlying5 Tryz.underlying9 hg HE.out
   have hsz2 : s.size ≤ maxLen := by
    have := congrArg List.length hs2
    rw [Array.length_toList] at this
    simp at this
    unfold maxLen
    have h1 : s.size = bs.length := this
    have := HL.out
    omega
   have hval : strVal s = V := by
    unfold strVal
    rw [hs2, HV.out, List.drop_zero]
    exact vv.out
   have HC := hid (rNormalize_any s wr hsz2)
   rw [hval] at HC
   clear hs2 hval
   go_wp2_with fail
   refine Calls.mono HC.out ?_
   rintro e w1 ⟨rfl, rfl⟩
   go_wp2
   go_ret
   exact ⟨rfl, hbw⟩
  | succ k =>
   rw [show (((k + 1 : Nat) : Int) - 1) = (k : Int) by omega]
   have hlt : k < ys.length := by omega
   rcases h4 with rfl | ⟨b, off, rfl, h4⟩
   ·simp at hlt
   obtain ⟨g0, g1⟩ := h4.u32 hlt
   rw [← hbw.cell (p := ⟨b, off + k, none⟩) (hS _ h4.1)] at g0
   have hdr : limbsVal (ys.drop k) = ys[k] + 4294967296 * limbsVal (ys.drop (k + 1)) := by rw [List.drop_eq_getElem_cons hlt]; rfl
   obtain ⟨x, hx⟩ : ∃ x, x = ys[k] := ⟨_, rfl⟩
   rw [← hx] at g0 g1 hdr
   have HDR := hid hdr
   clear hx hdr
   obtain ⟨d0, hd0⟩ : ∃ d, d = x / 16777216 := ⟨_, rfl⟩
   obtain ⟨d1, hd1⟩ : ∃ d, d = x / 65536 % 256 := ⟨_, rfl⟩
   obtain ⟨d2, hd2⟩ : ∃ d, d = x / 256 % 256 := ⟨_, rfl⟩
   obtain ⟨d3, hd3⟩ : ∃ d, d = x % 256 := ⟨_, rfl⟩
   have q1 : (x : Int) / 16777216 = (d0 : Int) := by omega
   have q2 : (x : Int) / 65536 % 256 = (d1 : Int) := by omega
   have q3 : (x : Int) / 256 % 256 = (d2 : Int) := by omega
   have q4 : (x : Int) % 256 = (d3 : Int) := by omega
   have HB := hid (bytes_append4 g1 HV.out)
   rw [show x / 16777216 % 256 = d0 by omega, ← hd1, ← hd2, ← hd3] at HB
   have hb0 : d0 < 256 := by omega
   have hb1 : d1 < 256 := by omega
   have hb2 : d2 < 256 := by omega
   have hb3 : d3 < 256 := by omega
   have hg2 := hg.kept stays_rU8 ((Below.refl _ _).alloc (Nat.le_refl _) (.cells #[.int .u8 (d0 : Int), .int .u8 (d1 : Int), .int .u8 (d2 : Int), .int .u8 (d3 : Int)] 5))
   have HH := hid (show d0 < 256 ∧ d1 < 256 ∧ d2 < 256 ∧ d3 < 256 from ⟨hb0, hb1, hb2, hb3⟩)
   clear hd0 hd1 hd2 hd3 hb1 hb2 hb3
   go_wp2_with (at_builtin; refine wpList_pushN _ rfl _ _ 236 rfl stays_rU8 w.heap.size 5 1 _ Tryz.underlying236 Tryz.infoU8 rfl _ bs [d0, d1, d2, d3] rfl hg2 ?hbase ?hbytes ?h63 (Nat.succ_pos 3) wr.heap.size 4 [.int .u8 (d0 : Int), .int .u8 (d1 : Int), .int .u8 (d2 : Int), .int .u8 (d3 : Int)] rfl rfl ?hb rfl ?hy ?_)
   case hbase => simp; omega
   case hbytes => have := HL.out; simp; omega
   case h63 => have := HL.out; simp; omega
   case hb => exact ⟨(0, 0), heap_alloc_new _ _⟩
   case hy =>
    intro j hj
    have hh := HH.out
    have : j = 0 ∨ j = 1 ∨ j = 2 ∨ j = 3 := by simp at hj; omega
    rcases this with rfl | rfl | rfl | rfl
    ·exact ⟨rfl, hh.1⟩
    ·exact ⟨rfl, hh.2.1⟩
    ·exact ⟨rfl, hh.2.2.1⟩
    exact ⟨rfl, hh.2.2.2⟩
   intro v' w' hg' hgr hbel'
   have hbel2 : Below w.heap.size w w' := (hbw.alloc hsz _).trans hbel'
   clear hg2 hg hbel' hgr
   go_wp2
   go_roundw
   case rel =>
    refine ⟨k, bs ++ [d0, d1, d2, d3], by omega, rfl, hbel2, hg', by have := HL.out; simp [Hid]; omega, ?_, fun h => by simp at h⟩
    exact HB.out.trans HDR.out.symm
   case measure => simp [intOf]
def OwnL (w : World) (g : Nat) (n : Nat) (o : List Nat) : Prop := o.length = n ∧ (∀ x ∈ o, x < 4294967296) ∧ ∃ f, Own w g 206 n f ∧ ∀ j, f j = .int .u32 ((o.getD j 0 : Nat) : Int)
theorem OwnL.cell {w : World} {g n : Nat} {o : List Nat} (h : OwnL w g n o) {j : Nat} (hj : j < o.length) : w.cell? ⟨g, j, none⟩ = some (.int .u32 (o[j] : Nat)) := by
 obtain ⟨h1, _, f, h2, h3⟩ := h
 rw [h2.cell (by omega), h3 j]
 simp [List.getD, hj]
theorem OwnL.frozen {w : World} {g n : Nat} {o : List Nat} (h : OwnL w g n o) (j : Nat) : w.frozen? ⟨g, j, none⟩ = false := h.2.2.choose_spec.1.frozen j
theorem OwnL.set {w : World} {g n : Nat} {o : List Nat} (h : OwnL w g n o) {p d : Nat} (hp : p < o.length) (hd : d < 4294967296) : OwnL (w.setCell ⟨g, p, none⟩ (.int .u32 d)) g n (o.set p d) := by
 obtain ⟨h1, h2, f, h3, h4⟩ := h
 refine ⟨by simpa using h1, fun x hx => ?_, _, h3.set p _, upd_set hp h4 d⟩
 rcases List.mem_or_eq_of_mem_set hx with h | h
 ·exact h2 x h
 omega
theorem OwnL.below {w w' : World} {B g n : Nat} {o : List Nat} (h : OwnL w g n o) (hb : Below B w w') (hg : g < B) : OwnL w' g n o := ⟨h.1, h.2.1, h.2.2.choose, h.2.2.choose_spec.1.below hb hg, h.2.2.choose_spec.2⟩
theorem OwnL.drew {w : World} {g n : Nat} {o : List Nat} (h : OwnL w g n o) : OwnL w.drew g n o := h
theorem OwnL.lt {w : World} {g n : Nat} {o : List Nat} (h : OwnL w g n o) : g < w.heap.size := h.2.2.choose_spec.1.lt
theorem OwnL.new (w : World) (n : Nat) : OwnL (w.alloc (.cells ((Array.range n).map fun _ => .int .u32 0) 206)) w.heap.size n (List.replicate n 0) := by
 refine ⟨by simp, fun x hx => by have := List.eq_of_mem_replicate hx; omega, _, Own.new _ _ _ _, fun j => ?_⟩
 simp [List.getD, List.getElem?_replicate]; split <;> rfl
theorem OwnL.slice {w : World} {g n : Nat} {o : List Nat} (h : OwnL w g n o) (hn : n ≤ 9223372036854775807) : rSlice 1 rU32 w (LT w.heap.size) [.slice (some ⟨g, 0, none⟩) n n] o :=
 own_limbs h.2.2.choose_spec.1 h.2.2.choose_spec.2 h.1 hn h.2.1
theorem pow2_lt {s : Nat} (hs : s < 32) : 2 ^ s ≤ 2147483648 := by
 have := Nat.pow_le_pow_right (n := 2) (by decide) (show s ≤ 31 by omega)
 exact this
theorem shl_bits {x c s : Nat} (hx : x < 4294967296) (hs : s < 32) (hc : c < 2 ^ s) :
  ∃ lo hi : Nat, bits .or .u32 (c : Int) (IntKind.u64.wrap ((x : Int) * 2 ^ s) % 4294967296) = ((c + lo : Nat) : Int) ∧
  bits .or .u32 (0 : Int) (IntKind.u64.wrap ((x : Int) * 2 ^ s) / 4294967296 % 4294967296) = (hi : Int) ∧ c + lo < 4294967296 ∧ hi < 2 ^ s ∧ 4294967296 * hi + lo = x * 2 ^ s := by
 have hp := pow2_lt hs
 have ht : x * 2 ^ s ≤ 4294967295 * 2147483648 := Nat.mul_le_mul (by omega) hp
 have e1 : (x : Int) * 2 ^ s = ((x * 2 ^ s : Nat) : Int) := by rw [Int.natCast_mul, Int.natCast_pow]; rfl
 have e2 : IntKind.u64.wrap ((x : Int) * 2 ^ s) = ((x * 2 ^ s : Nat) : Int) := by rw [e1]; exact IntWalk.u64_in _ (by omega)
 have hW : 4294967296 = 2 ^ (32 - s) * 2 ^ s := by rw [← Nat.pow_add, show 32 - s + s = 32 by omega]
 have hlo : x * 2 ^ s % 4294967296 = x % 2 ^ (32 - s) * 2 ^ s := by
  conv => lhs; rw [hW]
  exact Nat.mul_mod_mul_right _ _ _
 have hhi : x * 2 ^ s / 4294967296 < 2 ^ s := by
  apply Nat.div_lt_of_lt_mul
  exact Nat.mul_lt_mul_of_pos_right hx (Nat.pow_pos (by decide))
 have hlo2 : x * 2 ^ s % 4294967296 < 4294967296 := Nat.mod_lt _ (by decide)
 have hor : c ||| x * 2 ^ s % 4294967296 = c + x * 2 ^ s % 4294967296 := by rw [hlo, or_add c _ s hc]; omega
 have hsum : c + x * 2 ^ s % 4294967296 < 4294967296 := by
  rw [hlo]
  have h1 : (x % 2 ^ (32 - s) + 1) * 2 ^ s ≤ 2 ^ (32 - s) * 2 ^ s := Nat.mul_le_mul_right _ (Nat.mod_lt _ (Nat.pow_pos (by decide)))
  rw [← hW, Nat.add_mul] at h1
  omega
 generalize hT : x * 2 ^ s = T at *
 refine ⟨T % 4294967296, T / 4294967296, ?_, ?_, hsum, hhi, Nat.div_add_mod _ _⟩
 ·rw [e2, show ((T : Int) % 4294967296) = ((T % 4294967296 : Nat) : Int) by omega, u32_or_nat _ _ (by omega) hlo2, hor]
 rw [e2, show ((T : Int) / 4294967296 % 4294967296) = ((T / 4294967296 : Nat) : Int) by omega, show (0 : Int) = ((0 : Nat) : Int) from rfl, u32_or_nat _ _ (by omega) (by omega)]
 simp
set_option maxRecDepth 100000 in
set_option maxHeartbeats 1000000 in
theorem shift_any (S : Nat → Prop) (u : Value) (xs : List Nat) (s n : Nat) (w : World) (hS : ∀ b, S b → b < w.heap.size) (hn : n ≤ 1000000000000) (hs : s < 32) (hxn : xs.length ≤ n) (hv : limbsVal xs * 2 ^ s < 4294967296 ^ n) (hu : rSlice 1 rU32 w S [u] xs) :
    Calls Tryz.prog 214 #[u, .int .u64 s, .int .i64 n] w fun e w' => ∃ g o, e = .returned (.slice (some ⟨g, 0, none⟩) n n) ∧ w.heap.size ≤ g ∧ OwnL w' g n o ∧ limbsVal o = limbsVal xs * 2 ^ s ∧ Below w.heap.size w w' := by
  have hxlt := hid (u32s_lt hu)
  obtain ⟨xa, xc, rfl, x1, x2, x3, x4⟩ := u32s_open hu
  have hn' := len_le x1 x2
  have hmk := fun (w : World) => make_one (P := Tryz.prog) Tryz.underlying204 Tryz.infoU32 rfl w n (by omega) (by omega)
  have HV := hid hv
  clear hv
  go_enter Tryz.func214, Tryz.ntmps214
  go_wp2
  clear hmk
  go_loopw [8, 9, 10, 15] (fun _ _ _ i wr => ∃ (k : Nat) (o : List Nat), k ≤ xs.length ∧ i = .int .i64 k ∧ Below w.heap.size w wr ∧ OwnL wr w.heap.size n o ∧
      Hid (limbsVal o = limbsVal (xs.take k) * 2 ^ s) ∧ Hid (∀ j, k < j → o.getD j 0 = 0) ∧ Hid (o.getD k 0 < 2 ^ s)) (fun _ _ _ i _ => xs.length - (intOf i).toNat)
  case atStart =>
    refine ⟨0, _, Nat.zero_le _, rfl, (Below.refl _ _).alloc (Nat.le_refl _) _, OwnL.new _ _, ?_, fun j _ => ?_, ?_⟩
    · show limbsVal _ = limbsVal (xs.take 0) * 2 ^ s; rw [limbsVal_zeros]; simp [limbsVal]
    · simp [List.getD, List.getElem?_replicate]; split <;> rfl
    show (List.replicate n 0).getD 0 0 < 2 ^ s
    have : (List.replicate n 0).getD 0 0 = 0 := by simp [List.getD, List.getElem?_replicate]; split <;> rfl
    rw [this]; exact Nat.pow_pos (by decide)
  case round =>
    obtain ⟨k, o, hk, rfl, hbw, hown, HE, HZ, HC⟩ := hrel
    by_cases hlt : k < xs.length
    · rcases x4 with rfl | ⟨b1, off1, rfl, x4⟩
      · simp at hlt
      obtain ⟨g0, g1⟩ := x4.u32 hlt
      rw [← hbw.cell (p := ⟨b1, off1 + k, none⟩) (hS _ x4.1)] at g0
      have hko : k < o.length := by rw [hown.1]; omega
      have c1 := hown.cell hko
      have c2 := hown.frozen k
      have ek : o.getD k 0 = o[k] := by simp [List.getD, hko]
      have hck := HC.out
      rw [ek] at hck
      obtain ⟨lo, hi, b1', b2', b3', b4', hdm⟩ := shl_bits (x := xs[k]) (c := o[k]) g1 hs hck
      have HT := hid (limbsVal_take_succ xs k hlt)
      have HS := hid (fun d => limbsVal_set o k d hko)
      have HDM := hid hdm
      have B1 := hid b1'
      have B2 := hid b2'
      have B3 := hid b3'
      have B4 := hid b4'
      have CK := hid hck
      clear b1' b2' b3' b4' hck ek hdm
      by_cases hk1 : k + 1 < n
      · have hko1 : k + 1 < o.length := by rw [hown.1]; omega
        have e0 : o[k + 1] = 0 := by have := HZ.out (k + 1) (by omega); simpa [List.getD, hko1] using this
        have c3 := hown.cell hko1
        rw [e0] at c3
        have E0 := hid e0
        clear e0
        have c4 := hown.frozen (k + 1)
        go_wp2
        go_roundw
        case rel =>
          rw [B1.out, B2.out]
          have h2 : x2 = x2 := rfl
          refine ⟨k + 1, (o.set k (o[k] + lo)).set (k + 1) (hi), by omega, by go_num, (hbw.setCell (Nat.le_refl _) _).setCell (Nat.le_refl _) _,
            (hown.set hko B3.out).set (by simpa using hko1) (by have := B4.out; have := pow2_lt hs; omega), ?_, fun j hj => ?_, ?_⟩
          · show limbsVal _ = _
            have h1 := limbsVal_set (o.set k (o[k] + lo)) (k + 1) (hi) (by simpa using hko1)
            have h3 := HS.out (o[k] + lo)
            have h4 : (o.set k (o[k] + lo))[k + 1]'(by simpa using hko1) = 0 := by rw [List.getElem_set_ne (by omega)]; exact E0.out
            rw [h4] at h1
            rw [HT.out, Nat.add_mul, ← HE.out, Nat.mul_assoc, ← HDM.out, Nat.mul_add, ← Nat.mul_assoc, ← Nat.pow_succ, Nat.succ_eq_add_one]
            rw [Nat.mul_add] at h3
            omega
          · have := HZ.out j (by omega)
            simpa [List.getD, List.getElem?_set, show ¬ k = j by omega, show ¬ k + 1 = j by omega] using this
          show ((o.set k _).set (k + 1) _).getD (k + 1) 0 < 2 ^ s
          simp [List.getD, hko1]
          exact B4.out
        case measure => simp [intOf]; omega
      have hn1 : n = k + 1 := by omega
      have HN1 := hid hn1
      clear hn1
      go_wp2
      go_roundw
      case rel =>
        rw [B1.out]
        have hfull : xs.take (k + 1) = xs := List.take_of_length_le (by omega)
        have hV := HV.out
        have hsmall : hi = 0 := by
          have hlt' : xs[k] * 2 ^ s < 4294967296 := by
            have h5 := HT.out
            rw [hfull] at h5
            rw [h5, HN1.out, Nat.add_mul, ← HE.out, Nat.mul_assoc, Nat.pow_succ] at hV
            exact Nat.lt_of_mul_lt_mul_left (a := 4294967296 ^ k) (by omega)
          have := HDM.out
          omega
        refine ⟨k + 1, o.set k (o[k] + lo), by omega, by go_num, hbw.setCell (Nat.le_refl _) _, hown.set hko B3.out, ?_, fun j hj => ?_, ?_⟩
        · show limbsVal _ = _
          have h3 := HS.out (o[k] + lo)
          have h6 := HDM.out
          rw [hsmall, Nat.mul_zero, Nat.zero_add] at h6
          rw [HT.out, Nat.add_mul, ← HE.out, Nat.mul_assoc, ← h6]
          rw [Nat.mul_add] at h3
          omega
        · have := HZ.out j (by omega)
          simpa [List.getD, List.getElem?_set, show ¬ k = j by omega] using this
        show (o.set k _).getD (k + 1) 0 < 2 ^ s
        have h7 : (o.set k (o[k] + lo)).length ≤ k + 1 := by have := hown.1; have := HN1.out; simp; omega
        simp only [List.getD, List.getElem?_eq_none h7, Option.getD_none]
        exact Nat.pow_pos (by decide)
      case measure => simp [intOf]; omega
    have hs' : limbsVal o = limbsVal xs * 2 ^ s := by have := HE.out; rwa [List.take_of_length_le (by omega)] at this
    have HS' := hid hs'
    clear hs'
    go_wp2
    go_ret
    exact ⟨_, o, rfl, Nat.le_refl _, hown, HS'.out, hbw⟩
theorem shl_hi {x c lo hi s : Nat} (hx : x < 4294967296) (hs : s < 32) (hl : c + lo < 4294967296) (hh : hi < 2 ^ s) (h : 4294967296 * hi + lo = x * 2 ^ s) : IntKind.u64.wrap ((x : Int) * 2 ^ s) / 4294967296 % 4294967296 = (hi : Int) := by
 have hp := pow2_lt hs
 have ht : x * 2 ^ s ≤ 4294967295 * 2147483648 := Nat.mul_le_mul (by omega) hp
 have e1 : (x : Int) * 2 ^ s = ((x * 2 ^ s : Nat) : Int) := by rw [Int.natCast_mul, Int.natCast_pow]; rfl
 have e2 : IntKind.u64.wrap ((x : Int) * 2 ^ s) = ((x * 2 ^ s : Nat) : Int) := by rw [e1]; exact IntWalk.u64_in _ (by omega)
 rw [e2, ← h]
 omega
set_option maxRecDepth 100000 in
set_option maxHeartbeats 1000000 in
theorem shifted_any (S : Nat → Prop) (u : Value) (xs : List Nat) (s : Nat) (w : World) (hS : ∀ b, S b → b < w.heap.size) (hn : xs.length ≤ 999999999999) (hs : s < 32) (hu : rSlice 1 rU32 w S [u] xs) :
    Calls Tryz.prog 239 #[u, .int .u64 s] w fun e w' => ∃ g o, e = .returned (.slice (some ⟨g, 0, none⟩) (xs.length + 1) (xs.length + 1)) ∧ w.heap.size ≤ g ∧ OwnL w' g (xs.length + 1) o ∧ limbsVal o = limbsVal xs * 2 ^ s ∧ Below w.heap.size w w' := by
  have hxlt := hid (u32s_lt hu)
  obtain ⟨xa, xc, rfl, x1, x2, x3, x4⟩ := u32s_open hu
  have hn' := len_le x1 x2
  obtain ⟨n, hnn⟩ : ∃ n, n = xs.length + 1 := ⟨_, rfl⟩
  rw [← hnn]
  have hm1 : (xs.length : Int) + 1 = (n : Int) := by omega
  have hmk := fun (w : World) => make_one (P := Tryz.prog) Tryz.underlying203 Tryz.infoU32 rfl w n (by omega) (by omega)
  have hxn : xs.length < n := by omega
  have HNN := hid hnn
  clear hnn
  go_enter Tryz.func239, Tryz.ntmps239
  go_wp2
  clear hmk
  go_loopw [6, 7] (fun i _ wr => ∃ (k : Nat) (o : List Nat), k ≤ xs.length ∧ i = .int .i64 k ∧ Below w.heap.size w wr ∧ OwnL wr w.heap.size n o ∧
      Hid (limbsVal o = limbsVal (xs.take k) * 2 ^ s) ∧ Hid (∀ j, k < j → o.getD j 0 = 0) ∧ Hid (o.getD k 0 < 2 ^ s)) (fun i _ _ => xs.length - (intOf i).toNat)
  case atStart =>
    refine ⟨0, _, Nat.zero_le _, rfl, (Below.refl _ _).alloc (Nat.le_refl _) _, OwnL.new _ _, ?_, fun j _ => ?_, ?_⟩
    · show limbsVal _ = limbsVal (xs.take 0) * 2 ^ s; rw [limbsVal_zeros]; simp [limbsVal]
    · simp [List.getD, List.getElem?_replicate]; split <;> rfl
    show (List.replicate n 0).getD 0 0 < 2 ^ s
    have : (List.replicate n 0).getD 0 0 = 0 := by simp [List.getD, List.getElem?_replicate]; split <;> rfl
    rw [this]; exact Nat.pow_pos (by decide)
  case round =>
    obtain ⟨k, o, hk, rfl, hbw, hown, HE, HZ, HC⟩ := hrel
    by_cases hlt : k < xs.length
    · rcases x4 with rfl | ⟨b1, off1, rfl, x4⟩
      · simp at hlt
      obtain ⟨g0, g1⟩ := x4.u32 hlt
      rw [← hbw.cell (p := ⟨b1, off1 + k, none⟩) (hS _ x4.1)] at g0
      have hko : k < o.length := by rw [hown.1]; omega
      have c1 := hown.cell hko
      have c2 := hown.frozen k
      have ek : o.getD k 0 = o[k] := by simp [List.getD, hko]
      have hck := HC.out
      rw [ek] at hck
      obtain ⟨lo, hi, b1', b2', b3', b4', hdm⟩ := shl_bits (x := xs[k]) (c := o[k]) g1 hs hck
      have HT := hid (limbsVal_take_succ xs k hlt)
      have HS := hid (fun d => limbsVal_set o k d hko)
      have HDM := hid hdm
      have B1 := hid b1'
      have B2 := hid b2'
      have B3 := hid b3'
      have B4 := hid b4'
      have CK := hid hck
      have hb2 := shl_hi g1 hs b3' b4' hdm
      have B5 := hid hb2
      clear hb2 b1' b2' b3' b4' hck ek hdm
      by_cases hk1 : k + 1 < n
      · have hko1 : k + 1 < o.length := by rw [hown.1]; omega
        have e0 : o[k + 1] = 0 := by have := HZ.out (k + 1) (by omega); simpa [List.getD, hko1] using this
        have c3 := hown.cell hko1
        rw [e0] at c3
        have E0 := hid e0
        clear e0
        have c4 := hown.frozen (k + 1)
        go_wp2
        go_roundw
        case rel =>
          rw [B1.out, B5.out]
          have h2 : x2 = x2 := rfl
          refine ⟨k + 1, (o.set k (o[k] + lo)).set (k + 1) (hi), by omega, by go_num, (hbw.setCell (Nat.le_refl _) _).setCell (Nat.le_refl _) _,
            (hown.set hko B3.out).set (by simpa using hko1) (by have := B4.out; have := pow2_lt hs; omega), ?_, fun j hj => ?_, ?_⟩
          · show limbsVal _ = _
            have h1 := limbsVal_set (o.set k (o[k] + lo)) (k + 1) (hi) (by simpa using hko1)
            have h3 := HS.out (o[k] + lo)
            have h4 : (o.set k (o[k] + lo))[k + 1]'(by simpa using hko1) = 0 := by rw [List.getElem_set_ne (by omega)]; exact E0.out
            rw [h4] at h1
            rw [HT.out, Nat.add_mul, ← HE.out, Nat.mul_assoc, ← HDM.out, Nat.mul_add, ← Nat.mul_assoc, ← Nat.pow_succ, Nat.succ_eq_add_one]
            rw [Nat.mul_add] at h3
            omega
          · have := HZ.out j (by omega)
            simpa [List.getD, List.getElem?_set, show ¬ k = j by omega, show ¬ k + 1 = j by omega] using this
          show ((o.set k _).set (k + 1) _).getD (k + 1) 0 < 2 ^ s
          simp [List.getD, hko1]
          exact B4.out
        case measure => simp [intOf]; omega
      exact absurd (by have := HNN.out; omega) hk1
    have hk' : k = xs.length := by omega
    have hval : limbsVal o = limbsVal xs * 2 ^ s := by
      rw [HE.out, List.take_of_length_le (by omega)]
    have HVAL := hid hval
    clear hval
    go_wp2
    go_ret
    exact ⟨_, _, rfl, Nat.le_refl _, hown, HVAL.out, hbw⟩
theorem or32_add' (x r : Nat) (hx : x < 4294967296) (hr : r < 4294967296) : bits .or .u64 (x : Int) ((r : Int) * 4294967296) = ((r * 4294967296 + x : Nat) : Int) := by
 have e : (r : Int) * 4294967296 = ((r * 2 ^ 32 : Nat) : Int) := by rw [Int.natCast_mul]; rfl
 rw [e, u64_or_nat _ _ (by omega) (by omega), or_add x r 32 (by omega)]
theorem unshift_digit {xs : List Nat} (hxs : ∀ x ∈ xs, x < 4294967296) (i s : Nat) (hi : i < xs.length) (hs : s < 32) : (xs.getD (i + 1) 0 * 4294967296 + xs[i]) / 2 ^ s % 4294967296 = limbsVal xs / 2 ^ s / 4294967296 ^ i % 4294967296 := by
 have hx : ∃ r l, limbsVal xs = l + 4294967296 ^ i * (xs[i] + 4294967296 * xs.getD (i + 1) 0 + 18446744073709551616 * r) ∧ l = limbsVal (xs.take i) := by
  refine ⟨limbsVal (xs.drop (i + 2)), limbsVal (xs.take i), ?_, rfl⟩
  have e1 : limbsVal xs = limbsVal (xs.take i) + 4294967296 ^ i * limbsVal (xs.drop i) := by
   conv => lhs; rw [← List.take_append_drop i xs]
   rw [limbsVal_append, List.length_take, Nat.min_eq_left (by omega)]
  have e2 : limbsVal (xs.drop i) = xs[i] + 4294967296 * limbsVal (xs.drop (i + 1)) := by rw [List.drop_eq_getElem_cons hi]; rfl
  have e3 : limbsVal (xs.drop (i + 1)) = xs.getD (i + 1) 0 + 4294967296 * limbsVal (xs.drop (i + 2)) := by
   by_cases h : i + 1 < xs.length
   ·rw [List.drop_eq_getElem_cons h]; simp [List.getD, h, limbsVal]
   rw [List.drop_of_length_le (by omega), List.drop_of_length_le (by omega)]; simp [List.getD, List.getElem?_eq_none (by omega : xs.length ≤ i + 1), limbsVal]
  rw [e1, e2, e3, Nat.mul_add 4294967296 (xs.getD (i + 1) 0)]
  congr 2
  omega
 obtain ⟨r, l, hR, hl⟩ := hx
 have hl' : l < 4294967296 ^ i := by
  have := limbsVal_lt (xs := xs.take i) (fun x hx => hxs x (List.mem_of_mem_take hx))
  rw [List.length_take, Nat.min_eq_left (by omega)] at this
  rw [hl]; exact this
 rw [Nat.div_div_eq_div_mul, Nat.mul_comm (2 ^ s), ← Nat.div_div_eq_div_mul, hR, Nat.add_mul_div_left _ _ (ww_pos i), Nat.div_eq_of_lt hl', Nat.zero_add]
 have e1 : (18446744073709551616 : Nat) * r = 2 ^ s * (4294967296 * (2 ^ (32 - s) * r)) := by
  have : (18446744073709551616 : Nat) = 2 ^ s * (4294967296 * 2 ^ (32 - s)) := by
   have e2 : (4294967296 : Nat) = 2 ^ 32 := by decide
   rw [e2, ← Nat.pow_add, ← Nat.pow_add, show s + (32 + (32 - s)) = 64 by omega]
  conv => lhs; rw [this]
  rw [Nat.mul_assoc, Nat.mul_assoc]
 rw [e1, Nat.add_mul_div_left _ _ (Nat.pow_pos (by decide)), Nat.add_mul_mod_self_left, Nat.mul_comm (xs.getD (i + 1) 0), Nat.add_comm]
set_option maxRecDepth 100000 in
set_option maxHeartbeats 1000000 in
theorem unshift_any (S : Nat → Prop) (u : Value) (xs : List Nat) (s : Nat) (w : World) (hS : ∀ b, S b → b < w.heap.size) (hl : xs.length ≤ 1000000000000) (hs : s < 32) (hu : rSlice 1 rU32 w S [u] xs) :
    Calls Tryz.prog 216 #[u, .int .u64 s] w fun e w' => ∃ r, e = .returned r ∧ rSlice 1 rU32 w' (LT w'.heap.size) [r] (limbsOf (limbsVal xs / 2 ^ s)) ∧ Below w.heap.size w w' := by
  have hxlt := hid (u32s_lt hu)
  obtain ⟨xa, xc, rfl, x1, x2, x3, x4⟩ := u32s_open hu
  have hn' := len_le x1 x2
  have hmk := fun (w : World) => make_one (P := Tryz.prog) Tryz.underlying204 Tryz.infoU32 rfl w xs.length (by omega) (by omega)
  go_enter Tryz.func216, Tryz.ntmps216
  go_wp2
  clear hmk
  go_loopw [6, 7, 13] (fun _ _ i wr => ∃ (k : Nat) (o : List Nat), k ≤ xs.length ∧ i = .int .i64 k ∧ Below w.heap.size w wr ∧ OwnL wr w.heap.size xs.length o ∧
      Hid (∀ j, j < k → o.getD j 0 = limbsVal xs / 2 ^ s / 4294967296 ^ j % 4294967296)) (fun _ _ i _ => xs.length - (intOf i).toNat)
  case atStart => exact ⟨0, _, Nat.zero_le _, rfl, (Below.refl _ _).alloc (Nat.le_refl _) _, OwnL.new _ _, fun j hj => by omega⟩
  case round =>
    obtain ⟨k, o, hk, rfl, hbw, hown, HE⟩ := hrel
    by_cases hlt : k < xs.length
    · rcases x4 with rfl | ⟨b1, off1, rfl, x4⟩
      · simp at hlt
      obtain ⟨g0, g1⟩ := x4.u32 hlt
      rw [← hbw.cell (p := ⟨b1, off1 + k, none⟩) (hS _ x4.1)] at g0
      have hko : k < o.length := by rw [hown.1]; omega
      have c1 := hown.cell hko
      have c2 := hown.frozen k
      have HD := hid (unshift_digit hxlt.out k s hlt hs)
      obtain ⟨x, hx⟩ : ∃ x, x = xs[k] := ⟨_, rfl⟩
      rw [← hx] at g0 g1 HD
      clear hx
      by_cases hk1 : k + 1 < xs.length
      · obtain ⟨f0, f1⟩ := x4.u32 hk1
        rw [← hbw.cell (p := ⟨b1, off1 + (k + 1), none⟩) (hS _ x4.1)] at f0
        have ey : xs.getD (k + 1) 0 = xs[k + 1] := by simp [List.getD, hk1]
        rw [ey] at HD
        obtain ⟨y, hy⟩ : ∃ y, y = xs[k + 1] := ⟨_, rfl⟩
        rw [← hy] at f0 f1 HD
        clear hy ey
        have o1 := or32_add' x y g1 f1
        obtain ⟨d, hd⟩ : ∃ d : Nat, d = (y * 4294967296 + x) / 2 ^ s % 4294967296 := ⟨_, rfl⟩
        have hd1 : d < 4294967296 := by rw [hd]; exact Nat.mod_lt _ (by decide)
        have HV := hid (show ((y : Int) * 4294967296 + (x : Int)) / 2 ^ s % 4294967296 = (d : Int) by
          rw [hd, Int.natCast_emod, Int.natCast_ediv, Int.natCast_pow]; try rw [Int.natCast_add, Int.natCast_mul]
          rfl)
        skip
        rw [HD.out] at hd
        have HD2 := hid hd
        clear hd HD
        go_wp2
        go_roundw
        case rel =>
          rw [HV.out]
          refine ⟨k + 1, o.set k d, by omega, by go_num, hbw.setCell (Nat.le_refl _) _, hown.set hko hd1, fun j hj => ?_⟩
          by_cases hjk : j = k
          · subst hjk; rw [← HD2.out]; simp [List.getD, hko]
          rw [← HE.out j (by omega)]; simp [List.getD, List.getElem?_set, show ¬ k = j by omega]
        case measure => simp [intOf]; omega
      have ey : xs.getD (k + 1) 0 = 0 := by simp [List.getD, List.getElem?_eq_none (by omega : xs.length ≤ k + 1)]
      rw [ey] at HD
      clear ey
      obtain ⟨d, hd⟩ : ∃ d : Nat, d = x / 2 ^ s % 4294967296 := ⟨_, rfl⟩
      have hd1 : d < 4294967296 := by rw [hd]; exact Nat.mod_lt _ (by decide)
      have HV := hid (show (x : Int) / 2 ^ s % 4294967296 = (d : Int) by
        rw [hd, Int.natCast_emod, Int.natCast_ediv, Int.natCast_pow]; try rw [Int.natCast_add, Int.natCast_mul]
        rfl)
      rw [show x = 0 * 4294967296 + x by omega] at hd
      rw [HD.out] at hd
      have HD2 := hid hd
      clear hd HD
      go_wp2
      go_roundw
      case rel =>
        rw [HV.out]
        refine ⟨k + 1, o.set k d, by omega, by go_num, hbw.setCell (Nat.le_refl _) _, hown.set hko hd1, fun j hj => ?_⟩
        by_cases hjk : j = k
        · subst hjk; rw [← HD2.out]; simp [List.getD, hko]
        rw [← HE.out j (by omega)]; simp [List.getD, List.getElem?_set, show ¬ k = j by omega]
      case measure => simp [intOf]; omega
    have hoe : o = limbsFix xs.length (limbsVal xs / 2 ^ s) := by
      apply List.ext_getElem?
      intro j
      by_cases hj : j < xs.length
      · have h1 := HE.out j (by omega)
        rw [limbsFix_get _ _ _ hj, ← h1]
        have : j < o.length := by rw [hown.1]; exact hj
        simp [List.getD, this]
      rw [List.getElem?_eq_none (by rw [hown.1]; omega), List.getElem?_eq_none (by rw [limbsFix_len]; omega)]
    have hval : limbsVal o = limbsVal xs / 2 ^ s := by
      rw [hoe, limbsFix_val]
      apply Nat.mod_eq_of_lt
      exact Nat.lt_of_le_of_lt (Nat.div_le_self _ _) (limbsVal_lt hxlt.out)
    have hT := trim_any _ _ _ _ (hown.slice (by omega))
    rw [hval] at hT
    have HT := hid hT
    clear hval hoe hT
    go_wp2_with fail
    refine Calls.mono HT.out ?_
    rintro e' w3 ⟨r, rfl, rfl, hr⟩
    go_wp2
    go_ret
    exact ⟨_, rfl, hr, hbw⟩
end Go.Proofs.YtokmkopihhnggaaGreatDoor
section
/- Long division, one digit (Knuth's algorithm D): plain. -/
namespace Go.Proofs.YtokmkopihhnggaaGreatDoor
section
variable {D U M D0 U0 dt d2 top u2 : Nat} (hD : D = (dt * 4294967296 + d2) * M + D0) (hU : U = (top * 4294967296 + u2) * M + U0) (hD0 : D0 < M) (hU0 : U0 < M)
include hD hU hU0
theorem knuth_dec {G R : Nat} (h : G * dt + R = top) (hg : R * 4294967296 + u2 < G * d2) : U < G * D := by
 have h1 : (top * 4294967296 + u2 + 1) * M ≤ (G * (dt * 4294967296 + d2)) * M := by
  apply Nat.mul_le_mul_right
  rw [← h, Nat.mul_add, Nat.add_mul, ← Nat.mul_assoc]
  omega
 rw [Nat.add_mul, Nat.one_mul] at h1
 have h2 : G * D = G * (dt * 4294967296 + d2) * M + G * D0 := by rw [hD, Nat.mul_add, ← Nat.mul_assoc]
 rw [hU, h2]
 omega
include hD0
theorem knuth_exit {G R : Nat} (hdt : 0 < dt) (h : G * dt + R = top) (hg : G * d2 ≤ R * 4294967296 + u2) (hG : G ≤ 4294967296) : G * D ≤ U + D := by
 have h1 : (G * (dt * 4294967296 + d2)) * M ≤ (top * 4294967296 + u2) * M := by
  apply Nat.mul_le_mul_right
  rw [← h, Nat.mul_add, Nat.add_mul, ← Nat.mul_assoc]
  omega
 have h2 : G * D = G * (dt * 4294967296 + d2) * M + G * D0 := by rw [hD, Nat.mul_add, ← Nat.mul_assoc]
 have h3 : G * D0 ≤ 4294967296 * M := Nat.mul_le_mul hG (Nat.le_of_lt hD0)
 have h4 : 4294967296 * M ≤ (dt * 4294967296 + d2) * M := Nat.mul_le_mul_right _ (by omega)
 rw [h2]
 omega
end
theorem limbsVal_split (xs : List Nat) (m : Nat) (hm : m ≤ xs.length) : limbsVal xs = limbsVal (xs.take m) + 4294967296 ^ m * limbsVal (xs.drop m) := by
 conv => lhs; rw [← List.take_append_drop m xs]
 rw [limbsVal_append, List.length_take, Nat.min_eq_left hm]
theorem split_top2 {xs : List Nat} (h : ∀ x ∈ xs, x < 4294967296) (m : Nat) (hl : xs.length = m + 2) :
  ∃ X0, X0 < 4294967296 ^ m ∧ limbsVal xs = (xs.getD (m + 1) 0 * 4294967296 + xs.getD m 0) * 4294967296 ^ m + X0 := by
 refine ⟨limbsVal (xs.take m), ?_, ?_⟩
 ·have := limbsVal_lt (xs := xs.take m) (fun x hx => h x (List.mem_of_mem_take hx))
  rwa [List.length_take, Nat.min_eq_left (by omega)] at this
 rw [limbsVal_split xs m (by omega)]
 have e : xs.drop m = [xs.getD m 0, xs.getD (m + 1) 0] := by
  rw [List.drop_eq_getElem_cons (by omega), List.drop_eq_getElem_cons (by omega), List.drop_of_length_le (by omega)]
  simp [List.getD, show m < xs.length by omega, show m + 1 < xs.length by omega]
 rw [e]
 simp only [limbsVal]
 rw [Nat.mul_comm (4294967296 ^ m), Nat.add_comm, Nat.mul_comm 4294967296, Nat.mul_zero, Nat.add_zero]
 congr 2
 omega
theorem split_top3 {xs : List Nat} (h : ∀ x ∈ xs, x < 4294967296) (m : Nat) (hl : xs.length = m + 3) :
  ∃ X0, X0 < 4294967296 ^ m ∧ limbsVal xs = ((xs.getD (m + 2) 0 * 4294967296 + xs.getD (m + 1) 0) * 4294967296 + xs.getD m 0) * 4294967296 ^ m + X0 := by
 refine ⟨limbsVal (xs.take m), ?_, ?_⟩
 ·have := limbsVal_lt (xs := xs.take m) (fun x hx => h x (List.mem_of_mem_take hx))
  rwa [List.length_take, Nat.min_eq_left (by omega)] at this
 rw [limbsVal_split xs m (by omega)]
 have e : xs.drop m = [xs.getD m 0, xs.getD (m + 1) 0, xs.getD (m + 2) 0] := by
  rw [List.drop_eq_getElem_cons (by omega), List.drop_eq_getElem_cons (by omega), List.drop_eq_getElem_cons (by omega), List.drop_of_length_le (by omega)]
  simp [List.getD, show m < xs.length by omega, show m + 1 < xs.length by omega, show m + 2 < xs.length by omega]
 rw [e]
 simp only [limbsVal]
 rw [Nat.mul_comm (4294967296 ^ m), Nat.add_comm, Nat.mul_zero, Nat.add_zero]
 congr 2
 omega
theorem knuth_two {U D G : Nat} (hD : 0 < D) (h1 : U < (G + 1) * D) (h2 : G * D ≤ U + D) : G = U / D ∨ G = U / D + 1 := by
 have h3 : U / D ≤ G := by
  have := Nat.div_lt_of_lt_mul (show U < D * (G + 1) by rw [Nat.mul_comm]; exact h1)
  omega
 have h4 : G ≤ U / D + 1 := by
  have h5 : U < (U / D + 1) * D := by rw [Nat.mul_comm]; exact Nat.lt_mul_div_succ U hD
  rcases Nat.lt_or_ge (U / D + 1) G with h | h
  ·exfalso
   have h6 : (U / D + 1 + 1) * D ≤ G * D := Nat.mul_le_mul_right _ h
   rw [Nat.add_mul, Nat.one_mul] at h6
   omega
  exact h
 omega
theorem knuth_un {D U M D0 U0 dt d2 un u1 u2 : Nat} (hDe : D = (dt * 4294967296 + d2) * M + D0) (hUe : U = ((un * 4294967296 + u1) * 4294967296 + u2) * M + U0) (hD0 : D0 < M) (l4 : d2 < 4294967296) (hU : U < 4294967296 * D) : un ≤ dt := by
 rcases Nat.lt_or_ge dt un with h | h
 ·exfalso
  have h1 : (dt * 4294967296 + d2 + 1) * M ≤ (dt + 1) * 4294967296 * M := Nat.mul_le_mul_right _ (by omega)
  have h2 : (dt + 1) * 4294967296 * 4294967296 * M ≤ ((un * 4294967296 + u1) * 4294967296 + u2) * M := Nat.mul_le_mul_right _ (by omega)
  rw [Nat.add_mul, Nat.one_mul] at h1
  have h3 : (dt + 1) * 4294967296 * 4294967296 * M = 4294967296 * ((dt + 1) * 4294967296 * M) := by rw [Nat.mul_assoc ((dt + 1) * 4294967296), Nat.mul_left_comm]
  omega
 exact h
theorem knuth_first' {W D U M D0 U0 dt d2 t u2 G0 R0 : Nat} (hDe : D = (dt * W + d2) * M + D0) (hUe : U = (t * W + u2) * M + U0) (hU0 : U0 < M) (l2 : u2 < W)
  (hGR : G0 * dt + R0 = t) (hR0l : R0 < dt) : U < (G0 + 1) * D := by
 have h1 : t + 1 ≤ (G0 + 1) * dt := by rw [Nat.add_mul]; omega
 have h2 : (t + 1) * (W * M) ≤ (G0 + 1) * dt * (W * M) := Nat.mul_le_mul_right _ h1
 have h3 : dt * (W * M) ≤ D := by
  rw [hDe, Nat.add_mul, Nat.mul_assoc, Nat.add_assoc]
  exact Nat.le_add_right _ _
 have h3' : (G0 + 1) * (dt * (W * M)) ≤ (G0 + 1) * D := Nat.mul_le_mul_left _ h3
 rw [← Nat.mul_assoc (G0 + 1) dt] at h3'
 have h5 : t * W + u2 + 1 ≤ (t + 1) * W := by rw [Nat.add_mul]; omega
 have h6 : (t * W + u2 + 1) * M ≤ (t + 1) * W * M := Nat.mul_le_mul_right _ h5
 rw [Nat.add_mul (t * W + u2), Nat.one_mul, Nat.mul_assoc (t + 1)] at h6
 rw [hUe]
 generalize (t * W + u2) * M = a at *
 generalize (t + 1) * (W * M) = b at *
 omega
theorem knuth_first {D U M D0 U0 dt d2 un u1 u2 G0 R0 : Nat} (hDe : D = (dt * 4294967296 + d2) * M + D0) (hUe : U = ((un * 4294967296 + u1) * 4294967296 + u2) * M + U0) (hU0 : U0 < M) (l2 : u2 < 4294967296)
  (hGR : G0 * dt + R0 = un * 4294967296 + u1) (hR0l : R0 < dt) : U < (G0 + 1) * D := knuth_first' hDe hUe hU0 l2 hGR hR0l
theorem knuth_g0 {dt un u1 G0 R0 : Nat} (hdt : 2147483648 ≤ dt) (hun : un ≤ dt) (l1 : u1 < 4294967296) (hGR : G0 * dt + R0 = un * 4294967296 + u1) : G0 ≤ 4294967297 := by
 rcases Nat.lt_or_ge 4294967297 G0 with h | h
 ·exfalso
  have : 4294967298 * dt ≤ G0 * dt := Nat.mul_le_mul_right _ h
  omega
 exact h
theorem knuth_end0 {U D G U' : Nat} (hD : 0 < D) (h : G = U / D ∨ G = U / D + 1) (he : U' + G * D = U) : G = U / D ∧ U' = U % D := by
 have h1 := Nat.div_add_mod U D
 rw [Nat.mul_comm] at h1
 have h2 := Nat.mod_lt U hD
 rcases h with h | h
 ·rw [h] at he; exact ⟨h, by omega⟩
 exfalso; rw [h, Nat.add_mul] at he; omega
theorem knuth_end1 {U D G U' P : Nat} (hD : 0 < D) (h : G = U / D ∨ G = U / D + 1) (hP : U' < P) (he : U' + G * D = U + P) : G = U / D + 1 ∧ U' + D = P + U % D := by
 have h1 := Nat.div_add_mod U D
 rw [Nat.mul_comm] at h1
 rcases h with h | h
 ·exfalso; rw [h] at he; omega
 refine ⟨h, ?_⟩; rw [h, Nat.add_mul] at he; omega
theorem take_set_snoc {o : List Nat} {off k d : Nat} (hk : off + k < o.length) : ((o.set (off + k) d).drop off).take (k + 1) = (o.drop off).take k ++ [d] := by
 apply List.ext_getElem?
 intro i
 rcases Nat.lt_trichotomy i k with h | h | h
 ·rw [List.getElem?_append_left (by simp; omega)]
  simp [List.getElem?_take, show i < k + 1 by omega, h, List.getElem?_set, show ¬ k = i by omega]
 ·subst h
  rw [List.getElem?_append_right (by simp; omega)]
  simp [List.getElem?_take, hk, show min i (o.length - off) = i by omega]
 rw [List.getElem?_eq_none (by simp; omega), List.getElem?_eq_none (by simp; omega)]
theorem take_len {o : List Nat} {off k : Nat} (hk : off + k ≤ o.length) : ((o.drop off).take k).length = k := by simp; omega
theorem take_succ_off {o : List Nat} {off k : Nat} (hk : off + k < o.length) : (o.drop off).take (k + 1) = (o.drop off).take k ++ [o.getD (off + k) 0] := by
 rw [List.take_succ_eq_append_getElem (by simp; omega)]
 simp [List.getD, hk]
end Go.Proofs.YtokmkopihhnggaaGreatDoor
end
section
/- Contracts of the kit's shelf, laid at this translation by the kit's own tool: bits.Len32, bits.LeadingZeros32, strings.Compare. -/
namespace Go.Proofs
open Go.Shelf
def Tryz.lays133_ren : Go.Shelf.Ren := ⟨fun | 133 => 213 | 128 => 203 | n => n, fun | 51 => 206 | 3 => 3 | 4 => 4 | 46 => 115 | 5 => 5 | 9 => 9 | n => n, fun | n => n⟩
theorem Tryz.lays133 : Go.Proofs.Lays.n133 Tryz.prog Tryz.lays133_ren := {
 mixed := by kernel_rfl
 f128 := Tryz.func203.trans (congrArg some (by kernel_rfl))
 f133 := Tryz.func213.trans (congrArg some (by kernel_rfl))
 t3 := Tryz.underlying3
 a3 := Tryz.isAgg3
 z3 := Tryz.sizeOf3
 v3 := Tryz.zeroValue3
 t4 := Tryz.underlying4
 a4 := Tryz.isAgg4
 z4 := Tryz.sizeOf4
 v4 := Tryz.zeroValue4
 t5 := Tryz.underlying5
 a5 := Tryz.isAgg5
 z5 := Tryz.sizeOf5
 v5 := Tryz.zeroValue5
 t9 := Tryz.underlying9
 a9 := Tryz.isAgg9
 z9 := Tryz.sizeOf9
 v9 := Tryz.zeroValue9
 t46 := Tryz.underlying115
 a46 := Tryz.isAgg115
 z46 := Tryz.sizeOf115
 v46 := Tryz.zeroValue115
 t51 := Tryz.underlying206
 a51 := Tryz.isAgg206
 z51 := Tryz.sizeOf206
 v51 := Tryz.zeroValue206 }
theorem Tryz.bits_LeadingZeros32 (x : Int) (w : World) (h0 : 0 ≤ x) (h1 : x ≤ 4294967295) :
  Calls Tryz.prog 213 #[.int .u32 x] w fun e w' => e = .returned (.int .i64 (32 - (Lib.bitLen x.toNat : Int))) ∧ w' = w := Any.bits_LeadingZeros32 Tryz.lays133 x w h0 h1
end Go.Proofs
end
namespace Go.Proofs.YtokmkopihhnggaaGreatDoor
open Go.RowKit
theorem rSlice_nil32 (w : World) (S : Nat → Prop) : rSlice 1 rU32 w S [.slice none 0 0] (limbsOf 0) := by
 rw [limbsOf_zero]
 exact ⟨none, 0, rfl, by simp, by unfold maxLen; omega, fun _ => rfl, .inl rfl⟩
theorem limbsOf_one {y : Nat} (h : (limbsOf y).length = 1) : limbsOf y = [y] ∧ 0 < y ∧ y < 4294967296 := by
 have h1 := limbsVal_limbsOf y
 have h2 := limbsOf_lt y
 match hl : limbsOf y, h with
 | [z], _ =>
  rw [hl] at h1 h2
  simp only [limbsVal] at h1
  have h3 := h2 z (by simp)
  refine ⟨by simp; omega, ?_, by omega⟩
  rcases Nat.eq_zero_or_pos y with h0 | h0
  ·subst h0; rw [limbsOf_zero] at hl; cases hl
  exact h0
theorem divide_lt (S : Nat → Prop) (u v : Value) (x y : Nat) (w : World) (hS : ∀ b, S b → b < w.heap.size) (hxy : x < y) (hu : rSlice 1 rU32 w S [u] (limbsOf x)) (hv : rSlice 1 rU32 w S [v] (limbsOf y)) :
  Calls Tryz.prog 174 #[u, v] w fun e w' => ∃ q r, e = .returned (.tuple #[q, r]) ∧ rSlice 1 rU32 w' (LT w'.heap.size) [q] (limbsOf (x / y)) ∧ rSlice 1 rU32 w' (LT w'.heap.size) [r] (limbsOf (x % y)) ∧ Below w.heap.size w w' := by
 have hc := compare_any S u v x y w hS hu hv
 rw [natCmp_lt hxy] at hc
 have HC := hid hc
 clear hc
 go_enter Tryz.func174, Tryz.ntmps174
 go_wp2_with fail
 refine Calls.mono HC.out ?_
 rintro e w1 ⟨rfl, hb1⟩
 go_wp2
 go_ret2
 refine ⟨_, _, rfl, ?_, ?_, hb1⟩
 ·rw [Nat.div_eq_of_lt hxy]; exact rSlice_nil32 _ _
 rw [Nat.mod_eq_of_lt hxy]
 exact (stays_rSlice stays_rU32) _ _ _ _ _ _ hu (fun b hb => hb1.block b (hS b hb)) fun b hb => Nat.lt_of_lt_of_le (hS b hb) hb1.size
set_option maxRecDepth 100000 in
theorem divide_small (S : Nat → Prop) (u v : Value) (x y : Nat) (w : World) (hS : ∀ b, S b → b < w.heap.size) (hl : (limbsOf x).length ≤ 1000000000000) (hxy : y ≤ x) (hy1 : (limbsOf y).length = 1) (hu : rSlice 1 rU32 w S [u] (limbsOf x)) (hv : rSlice 1 rU32 w S [v] (limbsOf y)) :
  Calls Tryz.prog 174 #[u, v] w fun e w' => ∃ q r, e = .returned (.tuple #[q, r]) ∧ rSlice 1 rU32 w' (LT w'.heap.size) [q] (limbsOf (x / y)) ∧ rSlice 1 rU32 w' (LT w'.heap.size) [r] (limbsOf (x % y)) ∧ Below w.heap.size w w' := by
 obtain ⟨ey, hy0, hyW⟩ := limbsOf_one hy1
 have hc := compare_any S u v x y w hS hu hv
 have hcn : ¬ natCmp x y < 0 := by unfold natCmp; rw [if_neg (by omega)]; split <;> omega
 have HC := hid hc
 clear hc
 have hv' := hv
 have hu' := hid hu
 have hvx := hid (limbsVal_limbsOf x)
 rw [ey] at hv'
 obtain ⟨va, vc, rfl, v1, v2, v3, v4⟩ := u32s_open hv'
 rcases v4 with v4 | ⟨vb, voff, rfl, v4⟩
 ·cases v4
 have g0 := (v4.u32 (j := 0) (by simp)).1
 have hvS := hS vb v4.1
 simp only [List.getElem_cons_zero, Nat.add_zero] at g0
 have hsz : ([y] : List Nat).length = 1 := rfl
 clear hv hv' ey
 go_enter Tryz.func174, Tryz.ntmps174
 go_wp2_with fail
 refine Calls.mono HC.out ?_
 rintro e w1 ⟨rfl, hb1⟩
 rw [← hb1.cell (p := ⟨vb, voff, none⟩) hvS] at g0
 have hu1 : rSlice 1 rU32 w1 (LT w1.heap.size) [u] (limbsOf x) := (stays_rSlice stays_rU32) _ _ _ _ _ _ hu'.out (fun b hb => hb1.block b (hS b hb)) fun b hb => Nat.lt_of_lt_of_le (hS b hb) hb1.size
 have HD := hid (divideSmall_any _ _ _ y _ (fun _ h => h) hl hy0 hyW hu1)
 rw [hvx.out] at HD
 have hxm : x % y < 4294967296 := Nat.lt_of_lt_of_le (Nat.mod_lt _ hy0) (by omega)
 go_wp2_with fail
 refine Calls.mono HD.out ?_
 rintro e w2 ⟨q, rfl, hq, hb2⟩
 have hO : OwnL (w2.alloc (.cells #[.int .u32 ((x % y : Nat) : Int)] 206)) w2.heap.size 1 [x % y] := by
  refine ⟨rfl, fun z hz => by simp at hz; omega, fun j => .int .u32 (([x % y] : List Nat).getD j 0 : Nat), ?_, fun j => rfl⟩
  have := Own.new w2 206 1 (fun j => .int .u32 (([x % y] : List Nat).getD j 0 : Nat))
  have e : (Array.range 1).map (fun j => Value.int .u32 (([x % y] : List Nat).getD j 0 : Nat)) = #[.int .u32 ((x % y : Nat) : Int)] := by
   apply Array.ext'
   simp [List.range_succ]
  rw [e] at this
  exact this
 have hT := trim_any _ _ _ _ (hO.slice (by omega))
 have e1 : limbsVal [x % y] = x % y := by simp [limbsVal]
 rw [e1] at hT
 have HT := hid hT
 have hb3 : Below w2.heap.size w2 (w2.alloc (.cells #[.int .u32 ((x % y : Nat) : Int)] 206)) := (Below.refl _ _).alloc (Nat.le_refl _) _
 clear hT e1 hO hu1
 go_wp2_with fail
 refine Calls.mono HT.out ?_
 rintro e w3 ⟨r, rfl, rfl, hr⟩
 go_wp2
 go_ret2
 exact ⟨_, _, rfl, (stays_rSlice stays_rU32).below hq hb3 hb3.size, hr, hb1.step (hb2.step hb3)⟩
end Go.Proofs.YtokmkopihhnggaaGreatDoor
