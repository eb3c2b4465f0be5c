/- insolvencyref1: text: walked. -/
import Derived.Test.YtgmedcncbpdimaaDoorNat4M
import Derived.Test.YtgmedcncbpdimaaDoorRef5M
set_option linter.unusedVariables false
set_option linter.unusedSimpArgs false
/- insolvencyref1: text: walked. -/
namespace Go.Proofs.YtgmedcncbpdimaaDoor
open Go.RowKit

theorem bytes4 (x : Nat) (hx : x < 4294967296) : bytesVal ([x / 16777216 % 256, x / 65536 % 256, x / 256 % 256, x % 256].map UInt8.ofNat) = x := by
  simp [bytesVal, List.foldl]
  omega

theorem bytes_append4 {bs : List Nat} {x D : Nat} (hx : x < 4294967296) (h : bytesVal (bs.map UInt8.ofNat) = D) : bytesVal ((bs ++ [x / 16777216 % 256, x / 65536 % 256, x / 256 % 256, x % 256]).map UInt8.ofNat) = x + 4294967296 * D := by
  rw [List.map_append, bytesVal_append, bytes4 x hx, h]
  simp
  omega

theorem string_empty {P : Program} {src dst e : TypeId} (hs : P.underlying src = some (.slice e)) (he : P.underlying e = some (.int .u8)) (hd : P.underlying dst = some .string) (w : World) (a : Addr) (cap : Nat) :
    ∃ s : ByteArray, (convert src dst (.slice (some a) 0 cap)).run P w = .ok (.string s) w ∧ s.data.toList = [] := by
  have h5 : (loadCells a 0).run P w = .ok (([] : List Int).map (Value.int .u8)).toArray w := by
    have := run_loadCells (P := P) (w := w) a 0 (fun j => .int .u8 0) (fun j hj => by omega)
    rw [this]; rfl
  refine ⟨_, by rw [run_convert_bytes_string w src dst e _ 0 cap hs he hd, run_bytesToString w a 0 cap _ h5], ?_⟩
  rw [foldl_push]
  simp

theorem string_grow {P : Program} {src dst e : TypeId} (hs : P.underlying src = some (.slice e)) (he : P.underlying e = some (.int .u8)) (hd : P.underlying dst = some .string)
    {w : World} {E base : Nat} {v : Value} {l : List Nat} (h : rGrow E 1 rU8 base w v l) {a : Addr} {c : Nat} (hv : l = [] → v = .slice (some a) 0 c) :
    ∃ s : ByteArray, (convert src dst v).run P w = .ok (.string s) w ∧ s.data.toList = l.map UInt8.ofNat := by
  rcases Nat.eq_zero_or_pos l.length with h0 | h0
  · have : l = [] := List.eq_nil_of_length_eq_zero h0
    rw [hv this]
    obtain ⟨s, h1, h2⟩ := string_empty hs he hd w a c
    exact ⟨s, h1, by rw [h2, this]; rfl⟩
  · exact string_slice hs he hd (h.slice stays_rU8) h0

set_option maxRecDepth 100000 in
set_option maxHeartbeats 1000000 in
theorem rtext_any (S : Nat → Prop) (v : Value) (xs : List Nat) (w : World) (hS : ∀ b, S b → b < w.heap.size) (hl : xs.length ≤ 1000000000000) (hv : rSlice 1 rU32 w S [v] xs) :
    Calls Tryd.prog 92 #[v] w fun e w' => e = .returned (.string (natStr (limbsVal xs))) ∧ Below w.heap.size w w' := by
  have HST := hid (strip_any S v xs w hv)
  have hxs := hid (limbsOf_lt (limbsVal xs))
  have hlen : (limbsOf (limbsVal xs)).length ≤ 1000000000000 := Nat.le_trans (limbsOf_len_le (limbsVal_lt (u32s_lt hv))) hl
  have vv := hid (limbsVal_limbsOf (limbsVal xs))
  generalize limbsVal xs = V at *
  generalize limbsOf V = ys at *
  obtain ⟨n, hn4⟩ : ∃ n : Nat, n = 4 * ys.length := ⟨_, rfl⟩
  have hm1 : (4 : Int) * (ys.length : Int) = (n : Int) := by omega
  have hmk := fun (w : World) => make_cap (P := Tryd.prog) Tryd.underlying103 Tryd.infoU8 w n (by omega) (by omega)
  have hnb : n ≤ 9223372036854775807 := by omega
  have HN := hid hn4
  clear hn4 hv hl
  go_enter Tryd.func92, Tryd.ntmps92
  go_wp2_with fail
  refine Calls.mono HST.out ?_
  rintro e w1 ⟨r, rfl, rfl, hr⟩
  obtain ⟨a, cap, rfl, h1, h2, h3, h4⟩ := u32s_open hr
  clear hr
  go_wp2
  clear hmk
  have hm0 := hid (rGrow.made (α := Nat) 5 rU8 w #[.int .u8 0] n (by unfold maxLen; omega) (Nat.le_refl w.heap.size))
  rw [Nat.mul_one] at hm0
  go_loopw [3, 4, 5] (fun p i _ wr => ∃ (k : Nat) (bs : List Nat), k ≤ ys.length ∧ i = .int .i64 ((k : Int) - 1) ∧ Below w.heap.size w wr ∧ rGrow 5 1 rU8 w.heap.size wr p bs ∧ Hid (bs.length + 4 * k = n) ∧ Hid (bytesVal (bs.map UInt8.ofNat) = limbsVal (ys.drop k)) ∧ Hid (bs = [] → p = .slice (some ⟨w.heap.size, 0, none⟩) 0 n)) (fun _ i _ _ => (intOf i + 1).toNat)
  case atStart =>
    exact ⟨ys.length, [], Nat.le_refl _, rfl, (Below.refl _ _).alloc (Nat.le_refl _) _, hm0.out, by show 0 + _ = _; rw [HN.out]; omega, by show bytesVal [] = _; rw [List.drop_length]; rfl, fun _ => rfl⟩
  case round =>
    obtain ⟨k, bs, hk, rfl, hbw, hg, HL, HV, HE⟩ := hrel
    have hsz := hbw.size
    cases k with
    | zero =>
      obtain ⟨s, hs1, hs2⟩ := string_grow (P := Tryd.prog) Tryd.underlying103 Tryd.underlying5 Tryd.underlying9 hg HE.out
      have hsz2 : s.size ≤ maxLen := by
        have := congrArg List.length hs2
        rw [Array.length_toList] at this
        simp at this
        unfold maxLen
        have h1 : s.size = bs.length := this
        have := HL.out
        omega
      have hval : strVal s = V := by
        unfold strVal
        rw [hs2, HV.out, List.drop_zero]
        exact vv.out
      have HC := hid (rNormalize_any s wr hsz2)
      rw [hval] at HC
      clear hs2 hval
      go_wp2_with fail
      refine Calls.mono HC.out ?_
      rintro e w1 ⟨rfl, rfl⟩
      go_wp2
      go_ret
      exact ⟨rfl, hbw⟩
    | succ k =>
      rw [show (((k + 1 : Nat) : Int) - 1) = (k : Int) by omega]
      have hlt : k < ys.length := by omega
      rcases h4 with rfl | ⟨b, off, rfl, h4⟩
      · simp at hlt
      obtain ⟨g0, g1⟩ := h4.u32 hlt
      rw [← hbw.cell (p := ⟨b, off + k, none⟩) (hS _ h4.1)] at g0
      have hdr : limbsVal (ys.drop k) = ys[k] + 4294967296 * limbsVal (ys.drop (k + 1)) := by rw [List.drop_eq_getElem_cons hlt]; rfl
      obtain ⟨x, hx⟩ : ∃ x, x = ys[k] := ⟨_, rfl⟩
      rw [← hx] at g0 g1 hdr
      have HDR := hid hdr
      clear hx hdr
      obtain ⟨d0, hd0⟩ : ∃ d, d = x / 16777216 := ⟨_, rfl⟩
      obtain ⟨d1, hd1⟩ : ∃ d, d = x / 65536 % 256 := ⟨_, rfl⟩
      obtain ⟨d2, hd2⟩ : ∃ d, d = x / 256 % 256 := ⟨_, rfl⟩
      obtain ⟨d3, hd3⟩ : ∃ d, d = x % 256 := ⟨_, rfl⟩
      have q1 : (x : Int) / 16777216 = (d0 : Int) := by omega
      have q2 : (x : Int) / 65536 % 256 = (d1 : Int) := by omega
      have q3 : (x : Int) / 256 % 256 = (d2 : Int) := by omega
      have q4 : (x : Int) % 256 = (d3 : Int) := by omega
      have HB := hid (bytes_append4 g1 HV.out)
      rw [show x / 16777216 % 256 = d0 by omega, ← hd1, ← hd2, ← hd3] at HB
      have hb0 : d0 < 256 := by omega
      have hb1 : d1 < 256 := by omega
      have hb2 : d2 < 256 := by omega
      have hb3 : d3 < 256 := by omega
      have hg2 := hg.kept stays_rU8 ((Below.refl _ _).alloc (Nat.le_refl _) (.cells #[.int .u8 (d0 : Int), .int .u8 (d1 : Int), .int .u8 (d2 : Int), .int .u8 (d3 : Int)] 5))
      have HH := hid (show d0 < 256 ∧ d1 < 256 ∧ d2 < 256 ∧ d3 < 256 from ⟨hb0, hb1, hb2, hb3⟩)
      clear hd0 hd1 hd2 hd3 hb1 hb2 hb3
      go_wp2_with (at_builtin; refine wpList_pushN _ rfl _ _ 103 rfl stays_rU8 w.heap.size 5 1 _ Tryd.underlying103 Tryd.infoU8 rfl _ bs [d0, d1, d2, d3] rfl hg2 ?hbase ?hbytes ?h63 (Nat.succ_pos 3) wr.heap.size 4 [.int .u8 (d0 : Int), .int .u8 (d1 : Int), .int .u8 (d2 : Int), .int .u8 (d3 : Int)] rfl rfl ?hb rfl ?hy ?_)
      case hbase => simp; omega
      case hbytes => have := HL.out; simp; omega
      case h63 => have := HL.out; simp; omega
      case hb => exact ⟨(0, 0), heap_alloc_new _ _⟩
      case hy =>
        intro j hj
        have hh := HH.out
        have : j = 0 ∨ j = 1 ∨ j = 2 ∨ j = 3 := by simp at hj; omega
        rcases this with rfl | rfl | rfl | rfl
        · exact ⟨rfl, hh.1⟩
        · exact ⟨rfl, hh.2.1⟩
        · exact ⟨rfl, hh.2.2.1⟩
        · exact ⟨rfl, hh.2.2.2⟩
      intro v' w' hg' hgr hbel'
      have hbel2 : Below w.heap.size w w' := (hbw.alloc hsz _).trans hbel'
      clear hg2 hg hbel' hgr
      go_wp2
      go_roundw
      case rel =>
        refine ⟨k, bs ++ [d0, d1, d2, d3], by omega, rfl, hbel2, hg', by have := HL.out; simp [Hid]; omega, ?_, fun h => by simp at h⟩
        exact HB.out.trans HDR.out.symm
      case measure => simp [intOf]

end Go.Proofs.YtgmedcncbpdimaaDoor
