/- insolvencyref1: times: walked. -/
import Derived.Test.YtgmedcncbpdimaaDoorRef2M
import Derived.Test.YtgmedcncbpdimaaDoorNat10M
set_option linter.unusedVariables false
set_option linter.unusedSimpArgs false
/- insolvencyref1: times: walked. -/
namespace Go.Proofs.YtgmedcncbpdimaaDoor
open Go.RowKit

set_option maxRecDepth 100000 in
set_option maxHeartbeats 1000000 in
theorem times_any (u v : Value) (xs ys : List Nat) (w : World) (hx : xs.length ≤ 500000000000) (hy : ys.length ≤ 500000000000) (hu : rSlice 1 rU32 w (LT w.heap.size) [u] xs) (hv : rSlice 1 rU32 w (LT w.heap.size) [v] ys) :
    Calls Tryd.prog 66 #[u, v] w fun e w' => ∃ r, e = .returned r ∧ rSlice 1 rU32 w' (LT w'.heap.size) [r] (limbsOf (limbsVal xs * limbsVal ys)) ∧ Below w.heap.size w w' := by
  have hbel := Below.refl w.heap.size w
  obtain ⟨pa, pc, rfl, p1, p2, p3, p4⟩ := u32s_open hu
  obtain ⟨qa, qc, rfl, q1, q2, q3, q4⟩ := u32s_open hv
  obtain ⟨n, hn⟩ : ∃ n : Nat, n = xs.length + ys.length := ⟨_, rfl⟩
  have hn1 : (xs.length : Int) + (ys.length : Int) = (n : Int) := by omega
  have hmk := fun (w : World) => make_one (P := Tryd.prog) Tryd.underlying73 Tryd.infoU32 rfl w n (by omega) (by omega)
  have HN := hid hn
  clear hn
  have hxn : xs.length ≤ 9223372036854775807 := by omega
  have hyn : ys.length ≤ 9223372036854775807 := by omega
  go_enter Tryd.func66, Tryd.ntmps66
  go_wp2
  clear hmk hn1
  go_loopw [6, 7, 8] (fun i _ _ wr => ∃ (k : Nat) (o : List Nat) (f : Nat → Value), k ≤ xs.length ∧ i = .int .i64 k ∧ Below w.heap.size w wr ∧ w.heap.size < wr.heap.size ∧ Below w.heap.size w wr ∧ Own wr w.heap.size 85 n f ∧ Hid (∀ j, f j = .int .u32 ((o.getD j 0 : Nat) : Int)) ∧ Hid (o.length = n) ∧ Hid (∀ x ∈ o, x < 4294967296) ∧
      Hid (limbsVal o = limbsVal (xs.take k) * limbsVal ys) ∧ Hid (∀ j, k + ys.length ≤ j → o.getD j 0 = 0)) (fun i _ _ _ => xs.length - (intOf i).toNat)
  case atStart =>
    refine ⟨0, List.replicate n 0, _, Nat.zero_le _, rfl, hbel.alloc hbel.size _, by simp, (Below.refl _ _).alloc (Nat.le_refl _) _, Own.new _ _ _ _, fun j => ?_, by simp [Hid], fun x hx => ?_, ?_, fun j _ => ?_⟩
    · simp [List.getD, List.getElem?_replicate]; split <;> rfl
    · have := List.eq_of_mem_replicate hx; omega
    · show limbsVal _ = limbsVal (xs.take 0) * limbsVal ys; rw [limbsVal_zeros]; simp [limbsVal]
    · simp [List.getD, List.getElem?_replicate]; split <;> rfl
  case round =>
    obtain ⟨k, o, f, hk, rfl, hbw, hsz, hbw, hown, HF, HL, HD, HV, HZ⟩ := hrel
    by_cases hlt : k < xs.length
    · rcases p4 with rfl | ⟨b1, off1, rfl, p4⟩
      · simp at hlt
      obtain ⟨g0, g1⟩ := p4.u32 hlt
      have hkn : k + ys.length < n := by have := HN.out; omega
      have HT := hid (limbsVal_take_succ xs k hlt)
      obtain ⟨x, hx⟩ : ∃ x, x = xs[k] := ⟨_, rfl⟩
      rw [← hx] at g0 g1 HT
      clear hx
      have hkn' : (k : Int) < (n : Int) := by omega
      obtain ⟨wo, hwo⟩ : ∃ wo : World, wo = wr := ⟨_, rfl⟩
      subst hwo
      go_wp2
      go_loopw [7, 8] (fun c i wr => ∃ (m c' : Nat) (o' : List Nat) (f : Nat → Value), m ≤ ys.length ∧ i = .int .i64 m ∧ c = .int .u64 (c' : Int) ∧ c' < 4294967296 ∧ Below w.heap.size w wr ∧ w.heap.size < wr.heap.size ∧ Below w.heap.size w wr ∧ Own wr w.heap.size 85 n f ∧ Hid (∀ j, f j = .int .u32 ((o'.getD j 0 : Nat) : Int)) ∧ Hid (o'.length = n) ∧ Hid (∀ x ∈ o', x < 4294967296) ∧
        Hid (limbsVal o' + 4294967296 ^ (k + m) * c' = limbsVal (xs.take k) * limbsVal ys + 4294967296 ^ k * (x * limbsVal (ys.take m))) ∧ Hid (∀ j, k + ys.length ≤ j → o'.getD j 0 = 0)) (fun _ i _ => ys.length - (intOf i).toNat)
      case atStart => exact ⟨0, 0, o, f, Nat.zero_le _, rfl, rfl, by omega, hbw, hsz, hbw, hown, HF, HL, HD, by simp [Hid, limbsVal, HV.out], HZ⟩
      case round =>
        clear hown HF HL HD HV HZ hbw hsz
        obtain ⟨m, c', o', f, hm, rfl, rfl, hc', hbw, hsz, hbw, hown, HF, HL, HD, HV, HZ⟩ := hrel
        by_cases hmlt : m < ys.length
        · rcases q4 with rfl | ⟨b2, off2, rfl, q4⟩
          · simp at hmlt
          obtain ⟨f0, f1⟩ := q4.u32 hmlt
          rw [← hbw.cell (p := ⟨b2, off2 + m, none⟩) q4.1] at f0
          have hp : k + m < n := by omega
          have HT2 := hid (limbsVal_take_succ ys m hmlt)
          obtain ⟨y, hy⟩ : ∃ y, y = ys[m] := ⟨_, rfl⟩
          rw [← hy] at f0 f1 HT2
          clear hy
          have c1 := hown.cell hp
          rw [HF.out] at c1
          have hpo : k + m < o'.length := by rw [HL.out]; exact hp
          have eo : o'.getD (k + m) 0 = o'[k + m] := by simp [List.getD, hpo]
          have ho : o'[k + m] < 4294967296 := HD.out _ (List.getElem_mem hpo)
          have HS := hid (fun d => limbsVal_set o' (k + m) d hpo)
          rw [eo] at c1
          obtain ⟨z, hz⟩ : ∃ z, z = o'[k + m] := ⟨_, rfl⟩
          rw [← hz] at c1 ho HS
          have c2 := hown.frozen (k + m)
          clear hz eo
          obtain ⟨d, hd⟩ : ∃ d : Nat, d = (x * y + z + c') % 4294967296 := ⟨_, rfl⟩
          obtain ⟨e, he⟩ : ∃ e : Nat, e = (x * y + z + c') / 4294967296 := ⟨_, rfl⟩
          have hmb := mul_bd g1 f1
          have hde : d + 4294967296 * e = x * y + z + c' := by omega
          have hd1 : d < 4294967296 := by omega
          have he1 : e < 4294967296 := by omega
          have e1 : IntKind.u64.wrap ((x : Int) * (y : Int)) = (x : Int) * (y : Int) := IntWalk.u64_in _ (by rw [← Int.natCast_mul]; omega)
          have e2 : IntKind.u64.wrap ((c' : Int) + (x : Int) * (y : Int)) = (c' : Int) + (x : Int) * (y : Int) := IntWalk.u64_in _ (by rw [← Int.natCast_mul]; omega)
          have e3 : IntKind.u64.wrap ((c' : Int) + (x : Int) * (y : Int) + (z : Int)) = (c' : Int) + (x : Int) * (y : Int) + (z : Int) := IntWalk.u64_in _ (by rw [← Int.natCast_mul]; omega)
          have HDE := hid hde
          have Hd := hid (show ((c' : Int) + (x : Int) * (y : Int) + (z : Int)) % 4294967296 = (d : Int) by rw [← Int.natCast_mul]; omega)
          have He := hid (show ((c' : Int) + (x : Int) * (y : Int) + (z : Int)) / 4294967296 = (e : Int) by rw [← Int.natCast_mul]; omega)
          clear hmb hd he hde
          have gx0 := g0
          rw [← hbw.cell (p := ⟨b1, off1 + k, none⟩) p4.1] at gx0
          go_wp2
          go_quiet (fail)
          go_wp2
          clear e1 e2 e3
          go_roundw
          case rel =>
            rw [Hd.out, He.out]
            refine ⟨m + 1, e, o'.set (k + m) d, upd f (k + m) (.int .u32 d), by omega, by go_num, rfl, he1, (hbw.drewN _).setCell (p := ⟨w.heap.size, _, none⟩) hbel.size _, by simpa using hsz, (hbw.drewN _).setCell (Nat.le_refl _) _, (show Own (World.drewN _ _) _ _ _ _ from hown).set _ _, upd_set hpo HF.out d, ?_, ?_, ?_, ?_⟩
            · show (o'.set (k + m) d).length = n; simp [HL.out]
            · intro u hu
              rcases List.mem_or_eq_of_mem_set hu with h | h
              · exact HD.out u h
              · omega
            · show limbsVal (o'.set (k + m) d) + 4294967296 ^ (k + (m + 1)) * e = _
              have h1 := HV.out
              have h2 := HS.out d
              rw [HT2.out, ← Nat.add_assoc k m 1, Nat.pow_succ, Nat.mul_assoc]
              have h3 : 4294967296 ^ (k + m) * d + 4294967296 ^ (k + m) * (4294967296 * e) = 4294967296 ^ (k + m) * (x * y) + 4294967296 ^ (k + m) * z + 4294967296 ^ (k + m) * c' := by rw [← Nat.mul_add, HDE.out, Nat.mul_add, Nat.mul_add]
              have h4 : 4294967296 ^ k * (x * (limbsVal (ys.take m) + 4294967296 ^ m * y)) = 4294967296 ^ k * (x * limbsVal (ys.take m)) + 4294967296 ^ (k + m) * (x * y) := by
                rw [Nat.mul_add, Nat.mul_add, Nat.pow_add, Nat.mul_assoc (4294967296 ^ k)]
                congr 2
                rw [Nat.mul_left_comm]
              rw [h4]
              omega
            · intro j hj
              have := HZ.out j hj
              simpa [List.getD, List.getElem?_set, show ¬ k + m = j by omega] using this
          case measure => simp [intOf]; omega
        · have hm' : m = ys.length := by omega
          have hp : k + ys.length < o'.length := by rw [HL.out]; exact hkn
          have c1 := hown.cell hkn
          rw [HF.out] at c1
          have c2 := hown.frozen (k + ys.length)
          have hV2 : limbsVal (o'.set (k + ys.length) c') = limbsVal (xs.take (k + 1)) * limbsVal ys := by
            have h1 := HV.out
            have h2 := limbsVal_set o' (k + ys.length) c' hp
            have h3 := HZ.out (k + ys.length) (Nat.le_refl _)
            simp only [List.getD, List.getElem?_eq_getElem hp, Option.getD_some] at h3
            rw [h3] at h2
            rw [hm', List.take_length] at h1
            rw [HT.out, Nat.add_mul, Nat.mul_assoc]
            omega
          have HV2 := hid hV2
          clear hV2 hm'
          go_wp2
          go_roundw
          case rel =>
            refine ⟨k + 1, o'.set (k + ys.length) c', upd f (k + ys.length) (.int .u32 c'), by omega, by go_num, hbw.setCell (p := ⟨w.heap.size, _, none⟩) hbel.size _, by simpa using hsz, hbw.setCell (Nat.le_refl _) _, hown.set _ _, upd_set hp HF.out c', ?_, ?_, HV2.out, ?_⟩
            · show (o'.set _ _).length = n; simp [HL.out]
            · intro u hu
              rcases List.mem_or_eq_of_mem_set hu with h | h
              · exact HD.out u h
              · omega
            · intro j hj
              have := HZ.out j (by omega)
              simpa [List.getD, List.getElem?_set, show ¬ k + ys.length = j by omega] using this
          case measure => simp [intOf]; omega
    · have hs : limbsVal o = limbsVal xs * limbsVal ys := by
        have h1 := HV.out
        rw [List.take_of_length_le (by omega)] at h1
        exact h1
      have HR := hid (strip_any _ _ o _ (own_limbs hown HF.out HL.out (by have := HN.out; omega) HD.out))
      rw [hs] at HR
      clear hs
      go_wp2_with fail
      refine Calls.mono HR.out ?_
      rintro e' w3 ⟨r, rfl, rfl, hr⟩
      go_wp2
      go_ret
      exact ⟨_, rfl, hr, hbw⟩

end Go.Proofs.YtgmedcncbpdimaaDoor
