/- insolvencyref1: times: walked. -/
import Derived.Test.YtcgpghifhehlhaaGreatDoorLftM
import Derived.Shelf.Small.Bits
import Derived.Shelf.Small.Strs
import Derived.Test.YtcgpghifhehlhaaGreatDoorProg
import Derived.Deep.CutBlock
import Derived.Deep.DeepCutAuto
import Derived.Lib.BitFns
import Derived.StillTailTactics
set_option linter.unusedVariables false
set_option maxHeartbeats 2000000
set_option maxRecDepth 100000
set_option linter.unusedSimpArgs false
set_option linter.unusedSectionVars false
namespace Go.Proofs.YtcgpghifhehlhaaGreatDoor
open Go.RowKit Go.Proofs.Tryz
theorem KY (u v : Value) (xs ys : List Nat) (w : World) (hx : xs.length ≤ 500000000000) (hy : ys.length ≤ 500000000000) (hu : ax 1 bi w (LT w.heap.size) [u] xs) (hv : ax 1 bi w (LT w.heap.size) [v] ys) :
    Calls prog 88 #[u, v] w fun e w' => ∃ r, e = .returned r ∧ ax 1 bi w' (LT w'.heap.size) [r] (ae (ac xs * ac ys)) ∧ Below w.heap.size w w' := by
  have hbel := Below.refl w.heap.size w
  obtain ⟨pa, pc, rfl, p1, p2, p3, p4⟩ := aM hu
  obtain ⟨qa, qc, rfl, q1, q2, q3, q4⟩ := aM hv
  obtain ⟨n, hn⟩ : ∃ n : Nat, n = xs.length + ys.length := ⟨_, rfl⟩
  have hn1 : (xs.length : Int) + (ys.length : Int) = (n : Int) := by omega
  have hmk := fun (w : World) => cy (P := prog) underlying150 Tryz.infoU32 rfl w n (by omega) (by omega)
  have HN := hid hn
  clear hn
  have hxn : xs.length ≤ 9223372036854775807 := by omega
  have hyn : ys.length ≤ 9223372036854775807 := by omega
  go_enter func88, ntmps88
  go_wp2
  clear hmk hn1
  go_loopw [6, 7, 8] (fun i _ _ wr => ∃ (k : Nat) (o : List Nat) (f : Nat → Value), k ≤ xs.length ∧ i = .int .i64 k ∧ Below w.heap.size w wr ∧ w.heap.size < wr.heap.size ∧ Below w.heap.size w wr ∧ Own wr w.heap.size 168 n f ∧ Hid (∀ j, f j = .int .u32 ((o.getD j 0 : Nat) : Int)) ∧ Hid (o.length = n) ∧ Hid (∀ x ∈ o, x < 4294967296) ∧
      Hid (ac o = ac (xs.take k) * ac ys) ∧ Hid (∀ j, k + ys.length ≤ j → o.getD j 0 = 0)) (fun i _ _ _ => xs.length - (intOf i).toNat)
  case atStart =>
    refine ⟨0, List.replicate n 0, _, Nat.zero_le _, rfl, hbel.alloc hbel.size _, by simp, (Below.refl _ _).alloc (Nat.le_refl _) _, Own.new _ _ _ _, fun j => ?_, by simp [Hid], fun x hx => ?_, ?_, fun j _ => ?_⟩
    · simp [List.getD, List.getElem?_replicate]; split <;> rfl
    · have := List.eq_of_mem_replicate hx; omega
    · show ac _ = ac (xs.take 0) * ac ys; rw [d9]; simp [ac]
    simp [List.getD, List.getElem?_replicate]; split <;> rfl
  case round =>
    obtain ⟨k, o, f, hk, rfl, hbw, hsz, hbw, hown, HF, HL, HD, HV, HZ⟩ := hrel
    by_cases hlt : k < xs.length
    · rcases p4 with rfl | ⟨b1, off1, rfl, p4⟩
      · simp at hlt
      obtain ⟨g0, g1⟩ := p4.u32 hlt
      have hkn : k + ys.length < n := by have := HN.out; omega
      have HT := hid (br xs k hlt)
      obtain ⟨x, hx⟩ : ∃ x, x = xs[k] := ⟨_, rfl⟩
      rw [← hx] at g0 g1 HT
      clear hx
      have hkn' : (k : Int) < (n : Int) := by omega
      obtain ⟨wo, hwo⟩ : ∃ wo : World, wo = wr := ⟨_, rfl⟩
      subst hwo
      go_wp2
      go_loopw [7, 8] (fun c i wr => ∃ (m c' : Nat) (o' : List Nat) (f : Nat → Value), m ≤ ys.length ∧ i = .int .i64 m ∧ c = .int .u64 (c' : Int) ∧ c' < 4294967296 ∧ Below w.heap.size w wr ∧ w.heap.size < wr.heap.size ∧ Below w.heap.size w wr ∧ Own wr w.heap.size 168 n f ∧ Hid (∀ j, f j = .int .u32 ((o'.getD j 0 : Nat) : Int)) ∧ Hid (o'.length = n) ∧ Hid (∀ x ∈ o', x < 4294967296) ∧
        Hid (ac o' + 4294967296 ^ (k + m) * c' = ac (xs.take k) * ac ys + 4294967296 ^ k * (x * ac (ys.take m))) ∧ Hid (∀ j, k + ys.length ≤ j → o'.getD j 0 = 0)) (fun _ i _ => ys.length - (intOf i).toNat)
      case atStart => exact ⟨0, 0, o, f, Nat.zero_le _, rfl, rfl, by omega, hbw, hsz, hbw, hown, HF, HL, HD, by simp [Hid, ac, HV.out], HZ⟩
      case round =>
        clear hown HF HL HD HV HZ hbw hsz
        obtain ⟨m, c', o', f, hm, rfl, rfl, hc', hbw, hsz, hbw, hown, HF, HL, HD, HV, HZ⟩ := hrel
        by_cases hmlt : m < ys.length
        · rcases q4 with rfl | ⟨b2, off2, rfl, q4⟩
          · simp at hmlt
          obtain ⟨f0, f1⟩ := q4.u32 hmlt
          rw [← hbw.cell (p := ⟨b2, off2 + m, none⟩) q4.1] at f0
          have hp : k + m < n := by omega
          have HT2 := hid (br ys m hmlt)
          obtain ⟨y, hy⟩ : ∃ y, y = ys[m] := ⟨_, rfl⟩
          rw [← hy] at f0 f1 HT2
          clear hy
          have c1 := hown.cell hp
          rw [HF.out] at c1
          have hpo : k + m < o'.length := by rw [HL.out]; exact hp
          have eo : o'.getD (k + m) 0 = o'[k + m] := by simp [List.getD, hpo]
          have ho : o'[k + m] < 4294967296 := HD.out _ (List.getElem_mem hpo)
          have HS := hid (fun d => cU o' (k + m) d hpo)
          rw [eo] at c1
          obtain ⟨z, hz⟩ : ∃ z, z = o'[k + m] := ⟨_, rfl⟩
          rw [← hz] at c1 ho HS
          have c2 := hown.frozen (k + m)
          clear hz eo
          obtain ⟨d, hd⟩ : ∃ d : Nat, d = (x * y + z + c') % 4294967296 := ⟨_, rfl⟩
          obtain ⟨e, he⟩ : ∃ e : Nat, e = (x * y + z + c') / 4294967296 := ⟨_, rfl⟩
          have hmb := qy g1 f1
          have hde : d + 4294967296 * e = x * y + z + c' := by omega
          have hd1 : d < 4294967296 := by omega
          have he1 : e < 4294967296 := by omega
          have e1 : IntKind.u64.wrap ((x : Int) * (y : Int)) = (x : Int) * (y : Int) := IntWalk.u64_in _ (by rw [← Int.natCast_mul]; omega)
          have e2 : IntKind.u64.wrap ((c' : Int) + (x : Int) * (y : Int)) = (c' : Int) + (x : Int) * (y : Int) := IntWalk.u64_in _ (by rw [← Int.natCast_mul]; omega)
          have e3 : IntKind.u64.wrap ((c' : Int) + (x : Int) * (y : Int) + (z : Int)) = (c' : Int) + (x : Int) * (y : Int) + (z : Int) := IntWalk.u64_in _ (by rw [← Int.natCast_mul]; omega)
          have HDE := hid hde
          have Hd := hid (show ((c' : Int) + (x : Int) * (y : Int) + (z : Int)) % 4294967296 = (d : Int) by rw [← Int.natCast_mul]; omega)
          have He := hid (show ((c' : Int) + (x : Int) * (y : Int) + (z : Int)) / 4294967296 = (e : Int) by rw [← Int.natCast_mul]; omega)
          clear hmb hd he hde
          have gx0 := g0
          rw [← hbw.cell (p := ⟨b1, off1 + k, none⟩) p4.1] at gx0
          go_wp2
          go_quiet (fail)
          go_wp2
          clear e1 e2 e3
          go_roundw
          case rel =>
            rw [Hd.out, He.out]
            refine ⟨m + 1, e, o'.set (k + m) d, upd f (k + m) (.int .u32 d), by omega, by go_num, rfl, he1, (hbw.drewN _).setCell (p := ⟨w.heap.size, _, none⟩) hbel.size _, by simpa using hsz, (hbw.drewN _).setCell (Nat.le_refl _) _, (show Own (World.drewN _ _) _ _ _ _ from hown).set _ _, jt hpo HF.out d, ?_, ?_, ?_, ?_⟩
            · show (o'.set (k + m) d).length = n; simp [HL.out]
            · intro u hu
              rcases List.mem_or_eq_of_mem_set hu with h | h
              · exact HD.out u h
              omega
            · show ac (o'.set (k + m) d) + 4294967296 ^ (k + (m + 1)) * e = _
              have h1 := HV.out
              have h2 := HS.out d
              rw [HT2.out, ← Nat.add_assoc k m 1, Nat.pow_succ, Nat.mul_assoc]
              have h3 : 4294967296 ^ (k + m) * d + 4294967296 ^ (k + m) * (4294967296 * e) = 4294967296 ^ (k + m) * (x * y) + 4294967296 ^ (k + m) * z + 4294967296 ^ (k + m) * c' := by rw [← Nat.mul_add, HDE.out, Nat.mul_add, Nat.mul_add]
              have h4 : 4294967296 ^ k * (x * (ac (ys.take m) + 4294967296 ^ m * y)) = 4294967296 ^ k * (x * ac (ys.take m)) + 4294967296 ^ (k + m) * (x * y) := by
                rw [Nat.mul_add, Nat.mul_add, Nat.pow_add, Nat.mul_assoc (4294967296 ^ k)]
                congr 2
                rw [Nat.mul_left_comm]
              rw [h4]
              omega
            intro j hj
            have := HZ.out j hj
            simpa [List.getD, List.getElem?_set, show ¬ k + m = j by omega] using this
          case measure => simp [intOf]; omega
        have hm' : m = ys.length := by omega
        have hp : k + ys.length < o'.length := by rw [HL.out]; exact hkn
        have c1 := hown.cell hkn
        rw [HF.out] at c1
        have c2 := hown.frozen (k + ys.length)
        have hV2 : ac (o'.set (k + ys.length) c') = ac (xs.take (k + 1)) * ac ys := by
          have h1 := HV.out
          have h2 := cU o' (k + ys.length) c' hp
          have h3 := HZ.out (k + ys.length) (Nat.le_refl _)
          simp only [List.getD, List.getElem?_eq_getElem hp, Option.getD_some] at h3
          rw [h3] at h2
          rw [hm', List.take_length] at h1
          rw [HT.out, Nat.add_mul, Nat.mul_assoc]
          omega
        have HV2 := hid hV2
        clear hV2 hm'
        go_wp2
        go_roundw
        case rel =>
          refine ⟨k + 1, o'.set (k + ys.length) c', upd f (k + ys.length) (.int .u32 c'), by omega, by go_num, hbw.setCell (p := ⟨w.heap.size, _, none⟩) hbel.size _, by simpa using hsz, hbw.setCell (Nat.le_refl _) _, hown.set _ _, jt hp HF.out c', ?_, ?_, HV2.out, ?_⟩
          · show (o'.set _ _).length = n; simp [HL.out]
          · intro u hu
            rcases List.mem_or_eq_of_mem_set hu with h | h
            · exact HD.out u h
            omega
          intro j hj
          have := HZ.out j (by omega)
          simpa [List.getD, List.getElem?_set, show ¬ k + ys.length = j by omega] using this
        case measure => simp [intOf]; omega
    have hs : ac o = ac xs * ac ys := by
      have h1 := HV.out
      rw [List.take_of_length_le (by omega)] at h1
      exact h1
    have HR := hid (ge _ _ o _ (dv hown HF.out HL.out (by have := HN.out; omega) HD.out))
    rw [hs] at HR
    clear hs
    go_wp2_with fail
    refine Calls.mono HR.out ?_
    rintro e' w3 ⟨r, rfl, rfl, hr⟩
    go_wp2
    go_ret
    exact ⟨_, rfl, hr, hbw⟩
theorem Jr {P d y x e ld lx ly c':Nat} (h:d+(c'+y)=x+4294967296*e) (hV:ld+ly=lx+P*c'):ld+P*d+(ly+P*y)=lx+P*x+P*4294967296*e:=by
 have h2:P*d+(P*c'+P*y)=P*x+P*4294967296*e:=by rw [←Nat.mul_add,←Nat.mul_add,h,Nat.mul_add,Nat.mul_assoc]
 omega
theorem KZ (S : Nat → Prop) (u v : Value) (x y : Nat) (w : World) (hS : ∀ b, S b → b < w.heap.size) (hl : (ae x).length ≤ 1000000000000) (hyx : y ≤ x) (hu : ax 1 bi w S [u] (ae x)) (hv : ax 1 bi w S [v] (ae y)) :
    Calls prog 93 #[u, v] w fun e w' => ∃ r, e = .returned r ∧ ax 1 bi w' (LT w'.heap.size) [r] (ae (x - y)) ∧ Below w.heap.size w w' := by
  have hxlt := hid (bd x)
  have hylt := hid (bd y)
  have vx := hid (am x)
  have vy := hid (am y)
  have hylen : (ae y).length ≤ (ae x).length := by
    rcases Nat.lt_or_ge (ae x).length (ae y).length with h | h
    · have := ef h; omega
    exact h
  obtain ⟨xa, xc, rfl, x1, x2, x3, x4⟩ := aM hu
  obtain ⟨ya, yc, rfl, y1, y2, y3, y4⟩ := aM hv
  generalize ae x = xs at *
  generalize ae y = ys at *
  have hn := dX x1 x2
  have hmk := fun (w : World) => cy (P := prog) underlying150 Tryz.infoU32 rfl w xs.length (by omega) (by omega)
  go_enter func93, ntmps93
  go_wp2
  clear hmk
  go_loopw [6, 7, 8, 9] (fun c i _ _ wr => ∃ (k c' : Nat) (ds : List Nat) (f : Nat → Value), k ≤ xs.length ∧ i = .int .i64 k ∧ c = .int .u64 (c' : Int) ∧ Hid (c' ≤ 1) ∧ Below w.heap.size w wr ∧ w.heap.size < wr.heap.size ∧ Own wr w.heap.size 168 xs.length f ∧ Hid (∀ j, f j = .int .u32 ((ds.getD j 0 : Nat) : Int)) ∧ Hid (ds.length = k) ∧ Hid (∀ x ∈ ds, x < 4294967296) ∧
      Hid (ac ds + ac (ys.take k) = ac (xs.take k) + 4294967296 ^ k * c')) (fun _ i _ _ _ => xs.length - (intOf i).toNat)
  case atStart => exact ⟨0, 0, [], _, Nat.zero_le _, rfl, rfl, by show 0 ≤ 1; omega, (Below.refl _ _).alloc (Nat.le_refl _) _, by simp, Own.new _ _ _ _, fun j => by simp, rfl, fun x hx => by simp at hx, by simp [Hid, ac]⟩
  case round =>
    obtain ⟨k, c', ds, f, hk, rfl, rfl, hc', hbw, hsz, hown, HF, HL, HD, HV⟩ := hrel
    by_cases hlt : k < xs.length
    · rcases x4 with rfl | ⟨b1, off1, rfl, x4⟩
      · simp at hlt
      obtain ⟨g0, g1⟩ := x4.u32 hlt
      rw [← hbw.cell (p := ⟨b1, off1 + k, none⟩) (hS _ x4.1)] at g0
      have c1 := hown.cell hlt
      rw [HF.out k] at c1
      have c2 := hown.frozen k
      have e1 := bT xs k
      have e2 := bT ys k
      have ex : xs.getD k 0 = xs[k] := by simp [List.getD, hlt]
      rw [ex] at e1
      obtain ⟨X, hX⟩ : ∃ X, X = xs[k] := ⟨_, rfl⟩
      rw [← hX] at e1 g0 g1
      have E1 := hid e1
      clear e1 ex hX
      by_cases hy : k < ys.length
      · rcases y4 with rfl | ⟨b2, off2, rfl, y4⟩
        · simp at hy
        obtain ⟨f0, f1⟩ := y4.u32 hy
        rw [← hbw.cell (p := ⟨b2, off2 + k, none⟩) (hS _ y4.1)] at f0
        have ey : ys.getD k 0 = ys[k] := by simp [List.getD, hy]
        rw [ey] at e2
        obtain ⟨yk, hyk⟩ : ∃ X, X = ys[k] := ⟨_, rfl⟩
        rw [← hyk] at e2 f0 f1
        have E2 := hid e2
        obtain ⟨Y, hY⟩ : ∃ Y, Y = c' + yk := ⟨_, rfl⟩
        have q1 : IntKind.u64.wrap ((c' : Int) + (yk : Int)) = (Y : Int) := by
          rw [show (c' : Int) + (yk : Int) = (Y : Int) by omega]; exact IntWalk.u64_in _ (by have := hc'.out; omega)
        clear ey e2 hyk
        by_cases hc : X < Y
        · obtain ⟨X2, hX2⟩ : ∃ X2, X2 = X + 4294967296 := ⟨_, rfl⟩
          obtain ⟨d, hd⟩ : ∃ d, d = X2 - Y := ⟨_, rfl⟩
          have hd1 : d < 4294967296 := by omega
          have q2 : IntKind.u64.wrap ((X : Int) + 4294967296) = (X2 : Int) := by
            rw [show (X : Int) + 4294967296 = (X2 : Int) by omega]; exact IntWalk.u64_in _ (by omega)
          have q3 : IntKind.u64.wrap ((X2 : Int) - (Y : Int)) = (d : Int) := by
            rw [show (X2 : Int) - (Y : Int) = (d : Int) by have := hc'.out; omega]; exact IntWalk.u64_in _ (by omega)
          have q4 : (d : Int) % 4294967296 = (d : Int) := by omega
          have HDE := hid (show d + (c' + yk) = X + 4294967296 * 1 by have := hc'.out; omega)
          have HD1 := hid hd1
          clear hd hY hX2 hd1
          go_wp2
          clear q1 q2 q3 q4
          go_roundw
          case rel =>
            refine ⟨k + 1, 1, ds ++ [d], upd f k (.int .u32 d), by omega, by go_num, rfl, by show _ ≤ 1; omega, hbw.setCell (Nat.le_refl _) _, by simpa using hsz, hown.set _ _, eW HL.out HF.out d, ?_, ?_, ?_⟩
            · show (ds ++ [d]).length = k + 1; simp [HL.out]
            · intro x hx; rcases List.mem_append.1 hx with h | h
              · exact HD.out x h
              simp at h; have := HD1.out; omega
            show ac (ds ++ [d]) + ac (ys.take (k + 1)) = ac (xs.take (k + 1)) + 4294967296 ^ (k + 1) * 1
            rw [aD, HL.out, E1.out, E2.out, Nat.pow_succ]
            exact Jr HDE.out HV.out
          case measure => simp [intOf]; omega
        obtain ⟨d, hd⟩ : ∃ d, d = X - Y := ⟨_, rfl⟩
        have hd1 : d < 4294967296 := by omega
        have q3 : IntKind.u64.wrap ((X : Int) - (Y : Int)) = (d : Int) := by
          rw [show (X : Int) - (Y : Int) = (d : Int) by omega]; exact IntWalk.u64_in _ (by omega)
        have q4 : (d : Int) % 4294967296 = (d : Int) := by omega
        have HDE := hid (show d + (c' + yk) = X + 4294967296 * 0 by omega)
        have HD1 := hid hd1
        clear hd hY hd1
        go_wp2
        clear q1 q3 q4
        go_roundw
        case rel =>
          refine ⟨k + 1, 0, ds ++ [d], upd f k (.int .u32 d), by omega, by go_num, rfl, by show _ ≤ 1; omega, hbw.setCell (Nat.le_refl _) _, by simpa using hsz, hown.set _ _, eW HL.out HF.out d, ?_, ?_, ?_⟩
          · show (ds ++ [d]).length = k + 1; simp [HL.out]
          · intro x hx; rcases List.mem_append.1 hx with h | h
            · exact HD.out x h
            simp at h; have := HD1.out; omega
          show ac (ds ++ [d]) + ac (ys.take (k + 1)) = ac (xs.take (k + 1)) + 4294967296 ^ (k + 1) * 0
          rw [aD, HL.out, E1.out, E2.out, Nat.pow_succ]
          exact Jr HDE.out HV.out
        case measure => simp [intOf]; omega
      have ey : ys.getD k 0 = 0 := by simp [List.getD, List.getElem?_eq_none (by omega : ys.length ≤ k)]
      rw [ey] at e2
      have f1 : 0 < 4294967296 := by decide
      have E2 := hid e2
      have hY : c' = c' + 0 := rfl
      clear ey e2
      by_cases hc : X < c'
      · obtain ⟨X2, hX2⟩ : ∃ X2, X2 = X + 4294967296 := ⟨_, rfl⟩
        obtain ⟨d, hd⟩ : ∃ d, d = X2 - c' := ⟨_, rfl⟩
        have hd1 : d < 4294967296 := by omega
        have q2 : IntKind.u64.wrap ((X : Int) + 4294967296) = (X2 : Int) := by
          rw [show (X : Int) + 4294967296 = (X2 : Int) by omega]; exact IntWalk.u64_in _ (by omega)
        have q3 : IntKind.u64.wrap ((X2 : Int) - (c' : Int)) = (d : Int) := by
          rw [show (X2 : Int) - (c' : Int) = (d : Int) by have := hc'.out; omega]; exact IntWalk.u64_in _ (by omega)
        have q4 : (d : Int) % 4294967296 = (d : Int) := by omega
        have HDE := hid (show d + (c' + 0) = X + 4294967296 * 1 by have := hc'.out; omega)
        have HD1 := hid hd1
        clear hd hY hX2 hd1
        go_wp2
        clear q2 q3 q4
        go_roundw
        case rel =>
          refine ⟨k + 1, 1, ds ++ [d], upd f k (.int .u32 d), by omega, by go_num, rfl, by show _ ≤ 1; omega, hbw.setCell (Nat.le_refl _) _, by simpa using hsz, hown.set _ _, eW HL.out HF.out d, ?_, ?_, ?_⟩
          · show (ds ++ [d]).length = k + 1; simp [HL.out]
          · intro x hx; rcases List.mem_append.1 hx with h | h
            · exact HD.out x h
            simp at h; have := HD1.out; omega
          show ac (ds ++ [d]) + ac (ys.take (k + 1)) = ac (xs.take (k + 1)) + 4294967296 ^ (k + 1) * 1
          rw [aD, HL.out, E1.out, E2.out, Nat.pow_succ]
          exact Jr HDE.out HV.out
        case measure => simp [intOf]; omega
      obtain ⟨d, hd⟩ : ∃ d, d = X - c' := ⟨_, rfl⟩
      have hd1 : d < 4294967296 := by omega
      have q3 : IntKind.u64.wrap ((X : Int) - (c' : Int)) = (d : Int) := by
        rw [show (X : Int) - (c' : Int) = (d : Int) by omega]; exact IntWalk.u64_in _ (by omega)
      have q4 : (d : Int) % 4294967296 = (d : Int) := by omega
      have HDE := hid (show d + (c' + 0) = X + 4294967296 * 0 by omega)
      have HD1 := hid hd1
      clear hd hY hd1
      go_wp2
      clear q3 q4
      go_roundw
      case rel =>
        refine ⟨k + 1, 0, ds ++ [d], upd f k (.int .u32 d), by omega, by go_num, rfl, by show _ ≤ 1; omega, hbw.setCell (Nat.le_refl _) _, by simpa using hsz, hown.set _ _, eW HL.out HF.out d, ?_, ?_, ?_⟩
        · show (ds ++ [d]).length = k + 1; simp [HL.out]
        · intro x hx; rcases List.mem_append.1 hx with h | h
          · exact HD.out x h
          simp at h; have := HD1.out; omega
        show ac (ds ++ [d]) + ac (ys.take (k + 1)) = ac (xs.take (k + 1)) + 4294967296 ^ (k + 1) * 0
        rw [aD, HL.out, E1.out, E2.out, Nat.pow_succ]
        exact Jr HDE.out HV.out
      case measure => simp [intOf]; omega
    have hk' : k = xs.length := by omega
    have hs : ac ds = x - y := by
      have h1 := HV.out
      rw [List.take_of_length_le (by omega), List.take_of_length_le (by omega), vx.out, vy.out] at h1
      have h2 := aP HD.out
      rw [HL.out] at h2
      have : c' = 0 ∨ c' = 1 := by have := hc'.out; omega
      rcases this with h | h
      · subst h; omega
      subst h; omega
    have hR := dv hown HF.out (by rw [HL.out, hk']) (by omega) HD.out
    have HT := hid (ge _ _ _ _ hR)
    rw [hs] at HT
    clear hs hk' hR
    go_wp2_with fail
    refine Calls.mono HT.out ?_
    rintro e' w3 ⟨r, rfl, rfl, hr⟩
    go_wp2
    go_ret
    exact ⟨_, rfl, hr, hbw⟩
theorem JA {P d X Y e ld lx ly c':Nat} (h:d+4294967296*e=c'+X+Y) (hV:ld+P*c'=lx+ly):ld+P*d+P*4294967296*e=lx+P*X+(ly+P*Y):=by
 have h2:P*d+P*4294967296*e=P*c'+P*X+P*Y:=by rw [Nat.mul_assoc,←Nat.mul_add,h,Nat.mul_add,Nat.mul_add]
 omega
theorem J9 {x k:Nat} (h:k<(ae x).length):4294967296^k<=x:=by
 rcases Nat.lt_or_ge x (4294967296^k) with h1|h1
 ·have:=bS h1;omega
 exact h1
theorem KD {ds:List Nat} {v k:Nat} (hk:ds.length=k) (hd:∀x∈ds,x<4294967296) (hv:ac ds=v) (h:k=0∨4294967296^(k-1)<=v):ae v=ds:=by
 have h1:=aP hd;rw [hv,hk] at h1;have h2:=bS h1;have h3:(ae v).length=k:=by
  rcases h with h|h
  ·omega
  have:=kW h;omega
 have a:=oJ hd;have b:=oJ (bd v);rw [am,h3] at b;rw [hk,hv] at a;rw [←a,←b]
theorem K8 (S : Nat → Prop) (u v : Value) (x y : Nat) (w : World) (hS : ∀ b, S b → b < w.heap.size) (hl : (ae x).length ≤ 1000000000000) (hl2 : (ae y).length ≤ 1000000000000) (hu : ax 1 bi w S [u] (ae x)) (hv : ax 1 bi w S [v] (ae y)) :
    Calls prog 91 #[u, v] w fun e w' => ∃ r, e = .returned r ∧ ax 1 bi w' (LT w'.heap.size) [r] (ae (x + y)) ∧ Below w.heap.size w w' := by
  have vx := hid (am x)
  have vy := hid (am y)
  have HPx := hid (fun k (h : k < (ae x).length) => J9 h)
  have HPy := hid (fun k (h : k < (ae y).length) => J9 h)
  obtain ⟨xa, xc, rfl, x1, x2, x3, x4⟩ := aM hu
  obtain ⟨ya, yc, rfl, y1, y2, y3, y4⟩ := aM hv
  generalize ae x = xs at *
  generalize ae y = ys at *
  have hn := dX x1 x2
  have hn' := dX y1 y2
  go_enter func91, ntmps91
  go_wp2
  go_loopw [5, 6, 7] (fun p c i wr => ∃ (k c' : Nat) (ds : List Nat), Hid (k ≤ xs.length + ys.length + 1) ∧ i = .int .i64 k ∧ c = .int .u64 (c' : Int) ∧ c' ≤ 1 ∧ Below w.heap.size w wr ∧ rGrow 168 1 bi w.heap.size wr p ds ∧ Hid (ds.length = k) ∧ Hid (∀ x ∈ ds, x < 4294967296) ∧
      Hid (ac ds + 4294967296 ^ k * c' = ac (xs.take k) + ac (ys.take k)) ∧ Hid (k = 0 ∨ 4294967296 ^ (k - 1) ≤ x + y) ∧ Hid (c' = 0 ∨ k ≤ xs.length ∨ k ≤ ys.length)) (fun _ _ i _ => xs.length + ys.length + 1 - (intOf i).toNat)
  case atStart => exact ⟨0, 0, [], Nat.zero_le _, rfl, rfl, by omega, Below.refl _ _, rGrow.nil _ _ _ _ _, rfl, fun x hx => by simp at hx, by simp [Hid, ac], .inl rfl, .inl rfl⟩
  case round =>
    obtain ⟨k, c', ds, HK, rfl, rfl, hc', hbw, hg, HL, HD, HV, HT, HC⟩ := hrel
    have hkb : k ≤ 2000000000001 := by have := HK.out; omega
    have e1 := bT xs k
    have e2 := bT ys k
    have hsz := hbw.size
    by_cases ha : k < xs.length
    · by_cases hb : k < ys.length
      · rcases x4 with rfl | ⟨b1, off1, rfl, x4⟩
        · simp at ha
        obtain ⟨g0, g1⟩ := x4.u32 ha
        rw [← hbw.cell (p := ⟨b1, off1 + k, none⟩) (hS _ x4.1)] at g0
        have ex : xs.getD k 0 = xs[k] := by simp [List.getD, ha]
        rw [ex] at e1
        obtain ⟨X, hX⟩ : ∃ X, X = xs[k] := ⟨_, rfl⟩
        rw [← hX] at e1 g0 g1
        clear ex hX
        rcases y4 with rfl | ⟨b2, off2, rfl, y4⟩
        · simp at hb
        obtain ⟨f0, f1⟩ := y4.u32 hb
        rw [← hbw.cell (p := ⟨b2, off2 + k, none⟩) (hS _ y4.1)] at f0
        have ey : ys.getD k 0 = ys[k] := by simp [List.getD, hb]
        rw [ey] at e2
        obtain ⟨Y, hY⟩ : ∃ X, X = ys[k] := ⟨_, rfl⟩
        rw [← hY] at e2 f0 f1
        clear ey hY
        have E1 := hid e1
        have E2 := hid e2
        clear e1 e2
        obtain ⟨T, hT⟩ : ∃ T, T = c' + X + Y := ⟨_, rfl⟩
        obtain ⟨d, hd⟩ : ∃ d, d = T % 4294967296 := ⟨_, rfl⟩
        obtain ⟨e, he⟩ : ∃ e, e = T / 4294967296 := ⟨_, rfl⟩
        obtain ⟨T1, hT1⟩ : ∃ T, T = c' + X := ⟨_, rfl⟩
        have q1 : IntKind.u64.wrap ((c' : Int) + (X : Int)) = (T1 : Int) := by
          rw [show (c' : Int) + (X : Int) = (T1 : Int) by omega]; exact IntWalk.u64_in _ (by omega)
        have q2 : IntKind.u64.wrap ((T1 : Int) + (Y : Int)) = (T : Int) := by
          rw [show (T1 : Int) + (Y : Int) = (T : Int) by omega]; exact IntWalk.u64_in _ (by omega)
        have hd1 : d < 4294967296 := by omega
        have he1 : e ≤ 1 := by omega
        have q4 : (T : Int) % 4294967296 = (d : Int) := by omega
        have q5 : (T : Int) / 4294967296 = (e : Int) := by omega
        have HDE := hid (show d + 4294967296 * e = c' + X + Y by omega)
        have HK1 := hid (show k + 1 ≤ xs.length + ys.length + 1 by omega)
        have HD1 := hid hd1
        have HEB := hid he1
        have hg2 := hg.kept aX ((Below.refl _ _).alloc (Nat.le_refl _) (.cells #[.int .u32 (d : Int)] 168))
        have hy : bi (wr.alloc (.cells #[.int .u32 (d : Int)] 168)) (gL (wr.alloc (.cells #[.int .u32 (d : Int)] 168)) u5) [.int .u32 (d : Int)] d := ⟨rfl, hd1⟩
        clear hT hd he hT1 hd1 he1 hc'
        go_wp2_with (at_builtin; refine Jq _ rfl _ _ 150 rfl aX w.heap.size 168 1 4 _ underlying150 Tryz.infoU32 rfl (by omega) _ ds rfl hg2 ?hbase ?hbytes ?h63 wr.heap.size 1 [.int .u32 (d : Int)] rfl rfl ?hb rfl d hy ?_)
        case hbase => simp; omega
        case hbytes => rw [HL.out]; omega
        case h63 => rw [HL.out]; omega
        case hb => exact ⟨(0, 0), heap_alloc_new _ _⟩
        intro v' w' hg' hgr hbel'
        have hbel2 : Below w.heap.size w w' := (hbw.alloc hsz _).trans hbel'
        clear hy hg2 hg hbel' hgr
        go_wp2
        clear q1 q2 q4 q5
        go_roundw
        case rel =>
          refine ⟨k + 1, e, ds ++ [d], HK1, by go_num, rfl, HEB.out, hbel2, hg', ?_, ?_, ?_, ?_, .inr (.inl ha)⟩
          · show (ds ++ [d]).length = k + 1; simp [HL.out]
          · intro x hx; rcases List.mem_append.1 hx with h | h
            · exact HD.out x h
            simp at h; have := HD1.out; omega
          · show ac (ds ++ [d]) + 4294967296 ^ (k + 1) * e = ac (xs.take (k + 1)) + ac (ys.take (k + 1))
            rw [aD, HL.out, E1.out, E2.out, Nat.pow_succ]
            exact JA HDE.out HV.out
          exact .inr (Nat.le_trans (HPx.out k ha) (Nat.le_add_right _ _))
        case measure => have := HK1.out; simp [intOf]; omega
      rcases x4 with rfl | ⟨b1, off1, rfl, x4⟩
      · simp at ha
      obtain ⟨g0, g1⟩ := x4.u32 ha
      rw [← hbw.cell (p := ⟨b1, off1 + k, none⟩) (hS _ x4.1)] at g0
      have ex : xs.getD k 0 = xs[k] := by simp [List.getD, ha]
      rw [ex] at e1
      obtain ⟨X, hX⟩ : ∃ X, X = xs[k] := ⟨_, rfl⟩
      rw [← hX] at e1 g0 g1
      clear ex hX
      have ey : ys.getD k 0 = 0 := by simp [List.getD, List.getElem?_eq_none (by omega : ys.length ≤ k)]
      rw [ey] at e2
      clear ey
      have f1 : 0 < 4294967296 := by decide
      have E1 := hid e1
      have E2 := hid e2
      clear e1 e2
      obtain ⟨T, hT⟩ : ∃ T, T = c' + X + 0 := ⟨_, rfl⟩
      obtain ⟨d, hd⟩ : ∃ d, d = T % 4294967296 := ⟨_, rfl⟩
      obtain ⟨e, he⟩ : ∃ e, e = T / 4294967296 := ⟨_, rfl⟩
      have q1 : IntKind.u64.wrap ((c' : Int) + (X : Int)) = (T : Int) := by
        rw [show (c' : Int) + (X : Int) = (T : Int) by omega]; exact IntWalk.u64_in _ (by omega)
      have hd1 : d < 4294967296 := by omega
      have he1 : e ≤ 1 := by omega
      have q4 : (T : Int) % 4294967296 = (d : Int) := by omega
      have q5 : (T : Int) / 4294967296 = (e : Int) := by omega
      have HDE := hid (show d + 4294967296 * e = c' + X + 0 by omega)
      have HK1 := hid (show k + 1 ≤ xs.length + ys.length + 1 by omega)
      have HD1 := hid hd1
      have HEB := hid he1
      have hg2 := hg.kept aX ((Below.refl _ _).alloc (Nat.le_refl _) (.cells #[.int .u32 (d : Int)] 168))
      have hy : bi (wr.alloc (.cells #[.int .u32 (d : Int)] 168)) (gL (wr.alloc (.cells #[.int .u32 (d : Int)] 168)) u5) [.int .u32 (d : Int)] d := ⟨rfl, hd1⟩
      clear hT hd he hd1 he1 hc'
      go_wp2_with (at_builtin; refine Jq _ rfl _ _ 150 rfl aX w.heap.size 168 1 4 _ underlying150 Tryz.infoU32 rfl (by omega) _ ds rfl hg2 ?hbase ?hbytes ?h63 wr.heap.size 1 [.int .u32 (d : Int)] rfl rfl ?hb rfl d hy ?_)
      case hbase => simp; omega
      case hbytes => rw [HL.out]; omega
      case h63 => rw [HL.out]; omega
      case hb => exact ⟨(0, 0), heap_alloc_new _ _⟩
      intro v' w' hg' hgr hbel'
      have hbel2 : Below w.heap.size w w' := (hbw.alloc hsz _).trans hbel'
      clear hy hg2 hg hbel' hgr
      go_wp2
      clear q1 q4 q5
      go_roundw
      case rel =>
        refine ⟨k + 1, e, ds ++ [d], HK1, by go_num, rfl, HEB.out, hbel2, hg', ?_, ?_, ?_, ?_, .inr (.inl ha)⟩
        · show (ds ++ [d]).length = k + 1; simp [HL.out]
        · intro x hx; rcases List.mem_append.1 hx with h | h
          · exact HD.out x h
          simp at h; have := HD1.out; omega
        · show ac (ds ++ [d]) + 4294967296 ^ (k + 1) * e = ac (xs.take (k + 1)) + ac (ys.take (k + 1))
          rw [aD, HL.out, E1.out, E2.out, Nat.pow_succ]
          exact JA HDE.out HV.out
        exact .inr (Nat.le_trans (HPx.out k ha) (Nat.le_add_right _ _))
      case measure => have := HK1.out; simp [intOf]; omega
    by_cases hb : k < ys.length
    · have ex : xs.getD k 0 = 0 := by simp [List.getD, List.getElem?_eq_none (by omega : xs.length ≤ k)]
      rw [ex] at e1
      clear ex
      have g1 : 0 < 4294967296 := by decide
      rcases y4 with rfl | ⟨b2, off2, rfl, y4⟩
      · simp at hb
      obtain ⟨f0, f1⟩ := y4.u32 hb
      rw [← hbw.cell (p := ⟨b2, off2 + k, none⟩) (hS _ y4.1)] at f0
      have ey : ys.getD k 0 = ys[k] := by simp [List.getD, hb]
      rw [ey] at e2
      obtain ⟨Y, hY⟩ : ∃ X, X = ys[k] := ⟨_, rfl⟩
      rw [← hY] at e2 f0 f1
      clear ey hY
      have E1 := hid e1
      have E2 := hid e2
      clear e1 e2
      obtain ⟨T, hT⟩ : ∃ T, T = c' + 0 + Y := ⟨_, rfl⟩
      obtain ⟨d, hd⟩ : ∃ d, d = T % 4294967296 := ⟨_, rfl⟩
      obtain ⟨e, he⟩ : ∃ e, e = T / 4294967296 := ⟨_, rfl⟩
      have q1 : IntKind.u64.wrap ((c' : Int) + (Y : Int)) = (T : Int) := by
        rw [show (c' : Int) + (Y : Int) = (T : Int) by omega]; exact IntWalk.u64_in _ (by omega)
      have hd1 : d < 4294967296 := by omega
      have he1 : e ≤ 1 := by omega
      have q4 : (T : Int) % 4294967296 = (d : Int) := by omega
      have q5 : (T : Int) / 4294967296 = (e : Int) := by omega
      have HDE := hid (show d + 4294967296 * e = c' + 0 + Y by omega)
      have HK1 := hid (show k + 1 ≤ xs.length + ys.length + 1 by omega)
      have HD1 := hid hd1
      have HEB := hid he1
      have hg2 := hg.kept aX ((Below.refl _ _).alloc (Nat.le_refl _) (.cells #[.int .u32 (d : Int)] 168))
      have hy : bi (wr.alloc (.cells #[.int .u32 (d : Int)] 168)) (gL (wr.alloc (.cells #[.int .u32 (d : Int)] 168)) u5) [.int .u32 (d : Int)] d := ⟨rfl, hd1⟩
      clear hT hd he hd1 he1 hc'
      go_wp2_with (at_builtin; refine Jq _ rfl _ _ 150 rfl aX w.heap.size 168 1 4 _ underlying150 Tryz.infoU32 rfl (by omega) _ ds rfl hg2 ?hbase ?hbytes ?h63 wr.heap.size 1 [.int .u32 (d : Int)] rfl rfl ?hb rfl d hy ?_)
      case hbase => simp; omega
      case hbytes => rw [HL.out]; omega
      case h63 => rw [HL.out]; omega
      case hb => exact ⟨(0, 0), heap_alloc_new _ _⟩
      intro v' w' hg' hgr hbel'
      have hbel2 : Below w.heap.size w w' := (hbw.alloc hsz _).trans hbel'
      clear hy hg2 hg hbel' hgr
      go_wp2
      clear q1 q4 q5
      go_roundw
      case rel =>
        refine ⟨k + 1, e, ds ++ [d], HK1, by go_num, rfl, HEB.out, hbel2, hg', ?_, ?_, ?_, ?_, .inr (.inr hb)⟩
        · show (ds ++ [d]).length = k + 1; simp [HL.out]
        · intro x hx; rcases List.mem_append.1 hx with h | h
          · exact HD.out x h
          simp at h; have := HD1.out; omega
        · show ac (ds ++ [d]) + 4294967296 ^ (k + 1) * e = ac (xs.take (k + 1)) + ac (ys.take (k + 1))
          rw [aD, HL.out, E1.out, E2.out, Nat.pow_succ]
          exact JA HDE.out HV.out
        exact .inr (Nat.le_trans (HPy.out k hb) (Nat.le_add_left _ _))
      case measure => have := HK1.out; simp [intOf]; omega
    have ex : xs.getD k 0 = 0 := by simp [List.getD, List.getElem?_eq_none (by omega : xs.length ≤ k)]
    rw [ex] at e1
    clear ex
    have g1 : 0 < 4294967296 := by decide
    have ey : ys.getD k 0 = 0 := by simp [List.getD, List.getElem?_eq_none (by omega : ys.length ≤ k)]
    rw [ey] at e2
    clear ey
    have f1 : 0 < 4294967296 := by decide
    by_cases hc : 0 < c'
    · skip
      have E1 := hid e1
      have E2 := hid e2
      clear e1 e2
      obtain ⟨T, hT⟩ : ∃ T, T = c' + 0 + 0 := ⟨_, rfl⟩
      obtain ⟨d, hd⟩ : ∃ d, d = T % 4294967296 := ⟨_, rfl⟩
      obtain ⟨e, he⟩ : ∃ e, e = T / 4294967296 := ⟨_, rfl⟩
      have hTc : c' = T := by omega
      subst hTc
      have hd1 : d < 4294967296 := by omega
      have he1 : e ≤ 1 := by omega
      have q4 : (c' : Int) % 4294967296 = (d : Int) := by omega
      have q5 : (c' : Int) / 4294967296 = (e : Int) := by omega
      have HDE := hid (show d + 4294967296 * e = c' + 0 + 0 by omega)
      have HP := hid (show 4294967296 ^ k ≤ x + y by
        have h1 := HV.out
        rw [List.take_of_length_le (by omega), List.take_of_length_le (by omega), vx.out, vy.out] at h1
        have := Nat.mul_le_mul_left (4294967296 ^ k) hc
        omega)
      have HE0 := hid (show e = 0 by omega)
      have HK1 := hid (show k + 1 ≤ xs.length + ys.length + 1 by have := HC.out; omega)
      have HD1 := hid hd1
      have HEB := hid he1
      have hg2 := hg.kept aX ((Below.refl _ _).alloc (Nat.le_refl _) (.cells #[.int .u32 (d : Int)] 168))
      have hy : bi (wr.alloc (.cells #[.int .u32 (d : Int)] 168)) (gL (wr.alloc (.cells #[.int .u32 (d : Int)] 168)) u5) [.int .u32 (d : Int)] d := ⟨rfl, hd1⟩
      clear hT hd he hd1 he1 hc'
      go_wp2_with (at_builtin; refine Jq _ rfl _ _ 150 rfl aX w.heap.size 168 1 4 _ underlying150 Tryz.infoU32 rfl (by omega) _ ds rfl hg2 ?hbase ?hbytes ?h63 wr.heap.size 1 [.int .u32 (d : Int)] rfl rfl ?hb rfl d hy ?_)
      case hbase => simp; omega
      case hbytes => rw [HL.out]; omega
      case h63 => rw [HL.out]; omega
      case hb => exact ⟨(0, 0), heap_alloc_new _ _⟩
      intro v' w' hg' hgr hbel'
      have hbel2 : Below w.heap.size w w' := (hbw.alloc hsz _).trans hbel'
      clear hy hg2 hg hbel' hgr
      go_wp2
      clear q4 q5
      go_roundw
      case rel =>
        refine ⟨k + 1, e, ds ++ [d], HK1, by go_num, rfl, HEB.out, hbel2, hg', ?_, ?_, ?_, ?_, .inl HE0.out⟩
        · show (ds ++ [d]).length = k + 1; simp [HL.out]
        · intro x hx; rcases List.mem_append.1 hx with h | h
          · exact HD.out x h
          simp at h; have := HD1.out; omega
        · show ac (ds ++ [d]) + 4294967296 ^ (k + 1) * e = ac (xs.take (k + 1)) + ac (ys.take (k + 1))
          rw [aD, HL.out, E1.out, E2.out, Nat.pow_succ]
          exact JA HDE.out HV.out
        exact .inr HP.out
      case measure => have := HK1.out; simp [intOf]; omega
    have hs : ac ds = x + y := by
      have h1 := HV.out
      have : c' = 0 := by omega
      subst this
      rw [List.take_of_length_le (by omega), List.take_of_length_le (by omega), vx.out, vy.out, Nat.mul_zero] at h1
      exact h1
    have hR := hg.slice aX
    have hE := KD HL.out HD.out hs HT.out
    rw [← hE] at hR
    have hc0 : c' = 0 := by omega
    subst hc0
    clear hs hg hE
    go_wp2
    go_ret
    exact ⟨_, rfl, hR, hbw⟩
theorem yy (x:Nat) (hx:x<4294967296):aK ([x/16777216%256,x/65536%256,x/256%256,x%256].map UInt8.ofNat)=x:=by
 simp [aK,List.foldl];omega
theorem I3 {bs:List Nat} {x D:Nat} (hx:x<4294967296) (h:aK (bs.map UInt8.ofNat)=D):aK ((bs++[x/16777216%256,x/65536%256,x/256%256,x%256]).map UInt8.ofNat)=x+4294967296*D:=by
 rw [List.map_append,eZ,yy x hx,h];simp;omega
theorem nr {P:Program} {src dst e:TypeId} (hs:P.underlying src=some (.slice e)) (he:P.underlying e=some (.int .u8)) (hd:P.underlying dst=some .string) (w:World) (a:Addr) (cap:Nat):
  ∃s:ByteArray,(convert src dst (.slice (some a) 0 cap)).run P w= .ok (.string s) w/\s.data.toList=[]:=by
 have h5:(loadCells a 0).run P w= .ok (([]:List Int).map (Value.int .u8)).toArray w:=by
  have:=run_loadCells (P:=P) (w:=w) a 0 (fun j=> .int .u8 0) (fun j hj=>by omega);rw [this];rfl
 refine ⟨_,by rw [run_convert_bytes_string w src dst e _ 0 cap hs he hd,run_bytesToString w a 0 cap _ h5],?_⟩;rw [i6];simp
theorem oP {P:Program} {src dst e:TypeId} (hs:P.underlying src=some (.slice e)) (he:P.underlying e=some (.int .u8)) (hd:P.underlying dst=some .string)
  {w:World} {E base:Nat} {v:Value} {l:List Nat} (h:rGrow E 1 rU8 base w v l) {a:Addr} {c:Nat} (hv:l=[]->v= .slice (some a) 0 c):
  ∃s:ByteArray,(convert src dst v).run P w= .ok (.string s) w/\s.data.toList=l.map UInt8.ofNat:=by
 rcases Nat.eq_zero_or_pos l.length with h0|h0
 ·have:l=[]:=List.eq_nil_of_length_eq_zero h0;rw [hv this];obtain ⟨s,h1,h2⟩:=nr hs he hd w a c;exact ⟨s,h1,by rw [h2,this];rfl⟩
 exact nk hs he hd (h.slice jF) h0
theorem mA (S:Nat->Prop) (v:Value) (xs:List Nat) (w:World) (hS:∀b,S b->b<w.heap.size) (hl:xs.length<=1000000000000) (hv:ax 1 bi w S [v] xs):
  Calls prog 106 #[v] w fun e w'=>e= .returned (.string (al (ac xs)))/\Below w.heap.size w w':=by
 have HST:=hid (ge S v xs w hv);have hxs:=hid (bd (ac xs));have hlen:(ae (ac xs)).length<=1000000000000:=Nat.le_trans (bS (aP (eN hv))) hl;have vv:=hid (am (ac xs));generalize ac xs=V at *
 generalize ae V=ys at *
 obtain ⟨n,hn4⟩:∃n:Nat,n=4*ys.length:=⟨_,rfl⟩;have hm1:(4:Int)*(ys.length:Int)=(n:Int):=by omega
 have hmk:=fun (w:World)=>ut (P:=prog) underlying71 Tryz.infoU8 w n (by omega) (by omega)
 have hnb:n<=9223372036854775807:=by omega
 have HN:=hid hn4;clear hn4 hv hl;go_enter func106,ntmps106
 go_wp2_with fail
 refine Calls.mono HST.out ?_;rintro e w1 ⟨r,rfl,rfl,hr⟩;obtain ⟨a,cap,rfl,h1,h2,h3,h4⟩:=aM hr;clear hr;go_wp2
 clear hmk;have hm0:=hid (rGrow.made (α:=Nat) 5 rU8 w #[.int .u8 0] n (by unfold maxLen;omega) (Nat.le_refl w.heap.size));rw [Nat.mul_one] at hm0;go_loopw [3,4,5] (fun p i _ wr=>∃(k:Nat) (bs:List Nat),k<=ys.length/\i= .int .i64 ((k:Int)-1)/\Below w.heap.size w wr/\rGrow 5 1 rU8 w.heap.size wr p bs/\Hid (bs.length+4*k=n)/\Hid (aK (bs.map UInt8.ofNat)=ac (ys.drop k))/\Hid (bs=[]->p= .slice (some ⟨w.heap.size,0,none⟩) 0 n)) (fun _ i _ _=>(intOf i+1).toNat)
 case atStart=>
  exact ⟨ys.length,[],Nat.le_refl _,rfl,(Below.refl _ _).alloc (Nat.le_refl _) _,hm0.out,by show 0+_=_;rw [HN.out];omega,by show aK []=_;rw [List.drop_length];rfl,fun _=>rfl⟩
 case round=>
  obtain ⟨k,bs,hk,rfl,hbw,hg,HL,HV,HE⟩:=hrel;have hsz:=hbw.size;cases k with
  |zero=>
   obtain ⟨s,hs1,hs2⟩:=oP (P:=prog) underlying71 underlying5 underlying9 hg HE.out;have hsz2:s.size<=maxLen:=by
    have:=congrArg List.length hs2;rw [Array.length_toList] at this;simp at this;unfold maxLen;have h1:s.size=bs.length:=this;have:=HL.out;omega
   have hval:ah s=V:=by
    unfold ah;rw [hs2,HV.out,List.drop_zero];exact vv.out
   have HC:=hid (bG s wr hsz2);rw [hval] at HC;clear hs2 hval;go_wp2_with fail
   refine Calls.mono HC.out ?_;rintro e w1 ⟨rfl,rfl⟩;go_wp2
   go_ret
   exact ⟨rfl,hbw⟩
  |succ k=>
   rw [show (((k+1:Nat):Int)-1)=(k:Int) by omega];have hlt:k<ys.length:=by omega
   rcases h4 with rfl|⟨b,off,rfl,h4⟩
   ·simp at hlt
   obtain ⟨g0,g1⟩:=h4.u32 hlt;rw [←hbw.cell (p:=⟨b,off+k,none⟩) (hS _ h4.1)] at g0;have hdr:ac (ys.drop k)=ys[k]+4294967296*ac (ys.drop (k+1)):=by rw [List.drop_eq_getElem_cons hlt];rfl
   obtain ⟨x,hx⟩:∃x,x=ys[k]:=⟨_,rfl⟩;rw [←hx] at g0 g1 hdr;have HDR:=hid hdr;clear hx hdr;obtain ⟨d0,hd0⟩:∃d,d=x/16777216:=⟨_,rfl⟩;obtain ⟨d1,hd1⟩:∃d,d=x/65536%256:=⟨_,rfl⟩;obtain ⟨d2,hd2⟩:∃d,d=x/256%256:=⟨_,rfl⟩;obtain ⟨d3,hd3⟩:∃d,d=x%256:=⟨_,rfl⟩;have q1:(x:Int)/16777216=(d0:Int):=by omega
   have q2:(x:Int)/65536%256=(d1:Int):=by omega
   have q3:(x:Int)/256%256=(d2:Int):=by omega
   have q4:(x:Int)%256=(d3:Int):=by omega
   have HB:=hid (I3 g1 HV.out);rw [show x/16777216%256=d0 by omega,←hd1,←hd2,←hd3] at HB;have hb0:d0<256:=by omega
   have hb1:d1<256:=by omega
   have hb2:d2<256:=by omega
   have hb3:d3<256:=by omega
   have hg2:=hg.kept jF ((Below.refl _ _).alloc (Nat.le_refl _) (.cells #[.int .u8 (d0:Int),.int .u8 (d1:Int),.int .u8 (d2:Int),.int .u8 (d3:Int)] 5));have HH:=hid (show d0<256/\d1<256/\d2<256/\d3<256 from ⟨hb0,hb1,hb2,hb3⟩);clear hd0 hd1 hd2 hd3 hb1 hb2 hb3;go_wp2_with (at_builtin;refine nj _ rfl _ _ 71 rfl jF w.heap.size 5 1 _ underlying71 Tryz.infoU8 rfl _ bs [d0,d1,d2,d3] rfl hg2 ?hbase ?hbytes ?h63 (Nat.succ_pos 3) wr.heap.size 4 [.int .u8 (d0:Int),.int .u8 (d1:Int),.int .u8 (d2:Int),.int .u8 (d3:Int)] rfl rfl ?hb rfl ?hy ?_)
   case hbase=>simp;omega
   case hbytes=>have:=HL.out;simp;omega
   case h63=>have:=HL.out;simp;omega
   case hb=>exact ⟨(0,0),heap_alloc_new _ _⟩
   case hy=>
    intro j hj;have hh:=HH.out;have:j=0∨j=1∨j=2∨j=3:=by simp at hj;omega
    rcases this with rfl|rfl|rfl|rfl
    ·exact ⟨rfl,hh.1⟩
    ·exact ⟨rfl,hh.2.1⟩
    ·exact ⟨rfl,hh.2.2.1⟩
    exact ⟨rfl,hh.2.2.2⟩
   intro v' w' hg' hgr hbel';have hbel2:Below w.heap.size w w':=(hbw.alloc hsz _).trans hbel';clear hg2 hg hbel' hgr;go_wp2
   go_roundw
   case rel=>
    refine ⟨k,bs++[d0,d1,d2,d3],by omega,rfl,hbel2,hg',by have:=HL.out;simp [Hid];omega,?_,fun h=>by simp at h⟩;exact HB.out.trans HDR.out.symm
   case measure=>simp [intOf]
def OwnL (w:World) (g:Nat) (n:Nat) (o:List Nat):Prop:=o.length=n/\(∀x∈o,x<4294967296)/\∃f,Own w g 168 n f/\∀j,f j= .int .u32 ((o.getD j 0:Nat):Int)
theorem OwnL.cell {w:World} {g n:Nat} {o:List Nat} (h:OwnL w g n o) {j:Nat} (hj:j<o.length):w.cell? ⟨g,j,none⟩=some (.int .u32 (o[j]:Nat)):=by
 obtain ⟨h1,_,f,h2,h3⟩:=h;rw [h2.cell (by omega),h3 j];simp [List.getD,hj]
theorem OwnL.frozen {w:World} {g n:Nat} {o:List Nat} (h:OwnL w g n o) (j:Nat):w.frozen? ⟨g,j,none⟩=false:=h.2.2.choose_spec.1.frozen j
theorem OwnL.set {w:World} {g n:Nat} {o:List Nat} (h:OwnL w g n o) {p d:Nat} (hp:p<o.length) (hd:d<4294967296):OwnL (w.setCell ⟨g,p,none⟩ (.int .u32 d)) g n (o.set p d):=by
 obtain ⟨h1,h2,f,h3,h4⟩:=h;refine ⟨by simpa using h1,fun x hx=>?_,_,h3.set p _,jt hp h4 d⟩;rcases List.mem_or_eq_of_mem_set hx with h|h
 ·exact h2 x h
 omega
theorem OwnL.below {w w':World} {B g n:Nat} {o:List Nat} (h:OwnL w g n o) (hb:Below B w w') (hg:g<B):OwnL w' g n o:=⟨h.1,h.2.1,h.2.2.choose,h.2.2.choose_spec.1.below hb hg,h.2.2.choose_spec.2⟩
theorem OwnL.drew {w:World} {g n:Nat} {o:List Nat} (h:OwnL w g n o):OwnL w.drew g n o:=h
theorem OwnL.lt {w:World} {g n:Nat} {o:List Nat} (h:OwnL w g n o):g<w.heap.size:=h.2.2.choose_spec.1.lt
theorem OwnL.new (w:World) (n:Nat):OwnL (w.alloc (.cells ((Array.range n).map fun _=> .int .u32 0) 168)) w.heap.size n (List.replicate n 0):=by
 refine ⟨by simp,fun x hx=>by have:=List.eq_of_mem_replicate hx;omega,_,Own.new _ _ _ _,fun j=>?_⟩;simp [List.getD,List.getElem?_replicate];split<;>rfl
theorem OwnL.slice {w:World} {g n:Nat} {o:List Nat} (h:OwnL w g n o) (hn:n<=9223372036854775807):ax 1 bi w (LT w.heap.size) [.slice (some ⟨g,0,none⟩) n n] o:=
 dv h.2.2.choose_spec.1 h.2.2.choose_spec.2 h.1 hn h.2.1
theorem gC {s:Nat} (hs:s<32):2^s<=2147483648:=by
 have:=Nat.pow_le_pow_right (n:=2) (by decide) (show s<=31 by omega);exact this
theorem oQ {x c s:Nat} (hx:x<4294967296) (hs:s<32) (hc:c<2^s):
  ∃lo hi:Nat,bits .or .u32 (c:Int) (IntKind.u64.wrap ((x:Int)*2^s)%4294967296)=((c+lo:Nat):Int)/\
  bits .or .u32 (0:Int) (IntKind.u64.wrap ((x:Int)*2^s)/4294967296%4294967296)=(hi:Int)/\c+lo<4294967296/\hi<2^s/\4294967296*hi+lo=x*2^s:=by
 have hp:=gC hs;have ht:x*2^s<=4294967295*2147483648:=Nat.mul_le_mul (by omega) hp;have e1:(x:Int)*2^s=((x*2^s:Nat):Int):=by rw [Int.natCast_mul,Int.natCast_pow];rfl
 have e2:IntKind.u64.wrap ((x:Int)*2^s)=((x*2^s:Nat):Int):=by rw [e1];exact IntWalk.u64_in _ (by omega)
 have hW:4294967296=2^(32-s)*2^s:=by rw [←Nat.pow_add,show 32-s+s=32 by omega]
 have hlo:x*2^s%4294967296=x%2^(32-s)*2^s:=by
  conv=>lhs;rw [hW]
  exact Nat.mul_mod_mul_right _ _ _
 have hhi:x*2^s/4294967296<2^s:=by
  apply Nat.div_lt_of_lt_mul;exact Nat.mul_lt_mul_of_pos_right hx (Nat.pow_pos (by decide))
 have hlo2:x*2^s%4294967296<4294967296:=Nat.mod_lt _ (by decide);have hor:c|||x*2^s%4294967296=c+x*2^s%4294967296:=by rw [hlo,ni c _ s hc];omega
 have hsum:c+x*2^s%4294967296<4294967296:=by
  rw [hlo];have h1:(x%2^(32-s)+1)*2^s<=2^(32-s)*2^s:=Nat.mul_le_mul_right _ (Nat.mod_lt _ (Nat.pow_pos (by decide)));rw [←hW,Nat.add_mul] at h1;omega
 generalize hT:x*2^s=T at *
 refine ⟨T%4294967296,T/4294967296,?_,?_,hsum,hhi,Nat.div_add_mod _ _⟩
 ·rw [e2,show ((T:Int)%4294967296)=((T%4294967296:Nat):Int) by omega,u32_or_nat _ _ (by omega) hlo2,hor]
 rw [e2,show ((T:Int)/4294967296%4294967296)=((T/4294967296:Nat):Int) by omega,show (0:Int)=((0:Nat):Int) from rfl,u32_or_nat _ _ (by omega) (by omega)];simp
theorem mB (S : Nat → Prop) (u : Value) (xs : List Nat) (s n : Nat) (w : World) (hS : ∀ b, S b → b < w.heap.size) (hn : n ≤ 1000000000000) (hs : s < 32) (hxn : xs.length ≤ n) (hv : ac xs * 2 ^ s < 4294967296 ^ n) (hu : ax 1 bi w S [u] xs) :
    Calls prog 201 #[u, .int .u64 s, .int .i64 n] w fun e w' => ∃ g o, e = .returned (.slice (some ⟨g, 0, none⟩) n n) ∧ w.heap.size ≤ g ∧ OwnL w' g n o ∧ ac o = ac xs * 2 ^ s ∧ Below w.heap.size w w' := by
  have hxlt := hid (eN hu)
  obtain ⟨xa, xc, rfl, x1, x2, x3, x4⟩ := aM hu
  have hn' := dX x1 x2
  have hmk := fun (w : World) => cy (P := prog) underlying218 Tryz.infoU32 rfl w n (by omega) (by omega)
  have HV := hid hv
  clear hv
  go_enter func201, ntmps201
  go_wp2
  clear hmk
  go_loopw [8, 9, 10, 15] (fun _ _ _ i wr => ∃ (k : Nat) (o : List Nat), k ≤ xs.length ∧ i = .int .i64 k ∧ Below w.heap.size w wr ∧ OwnL wr w.heap.size n o ∧
      Hid (ac o = ac (xs.take k) * 2 ^ s) ∧ Hid (∀ j, k < j → o.getD j 0 = 0) ∧ Hid (o.getD k 0 < 2 ^ s)) (fun _ _ _ i _ => xs.length - (intOf i).toNat)
  case atStart =>
    refine ⟨0, _, Nat.zero_le _, rfl, (Below.refl _ _).alloc (Nat.le_refl _) _, OwnL.new _ _, ?_, fun j _ => ?_, ?_⟩
    · show ac _ = ac (xs.take 0) * 2 ^ s; rw [d9]; simp [ac]
    · simp [List.getD, List.getElem?_replicate]; split <;> rfl
    show (List.replicate n 0).getD 0 0 < 2 ^ s
    have : (List.replicate n 0).getD 0 0 = 0 := by simp [List.getD, List.getElem?_replicate]; split <;> rfl
    rw [this]; exact Nat.pow_pos (by decide)
  case round =>
    obtain ⟨k, o, hk, rfl, hbw, hown, HE, HZ, HC⟩ := hrel
    by_cases hlt : k < xs.length
    · rcases x4 with rfl | ⟨b1, off1, rfl, x4⟩
      · simp at hlt
      obtain ⟨g0, g1⟩ := x4.u32 hlt
      rw [← hbw.cell (p := ⟨b1, off1 + k, none⟩) (hS _ x4.1)] at g0
      have hko : k < o.length := by rw [hown.1]; omega
      have c1 := hown.cell hko
      have c2 := hown.frozen k
      have ek : o.getD k 0 = o[k] := by simp [List.getD, hko]
      have hck := HC.out
      rw [ek] at hck
      obtain ⟨lo, hi, b1', b2', b3', b4', hdm⟩ := oQ (x := xs[k]) (c := o[k]) g1 hs hck
      have HT := hid (br xs k hlt)
      have HS := hid (fun d => cU o k d hko)
      have HDM := hid hdm
      have B1 := hid b1'
      have B2 := hid b2'
      have B3 := hid b3'
      have B4 := hid b4'
      have CK := hid hck
      clear b1' b2' b3' b4' hck ek hdm
      by_cases hk1 : k + 1 < n
      · have hko1 : k + 1 < o.length := by rw [hown.1]; omega
        have e0 : o[k + 1] = 0 := by have := HZ.out (k + 1) (by omega); simpa [List.getD, hko1] using this
        have c3 := hown.cell hko1
        rw [e0] at c3
        have E0 := hid e0
        clear e0
        have c4 := hown.frozen (k + 1)
        go_wp2
        go_roundw
        case rel =>
          rw [B1.out, B2.out]
          have h2 : x2 = x2 := rfl
          refine ⟨k + 1, (o.set k (o[k] + lo)).set (k + 1) (hi), by omega, by go_num, (hbw.setCell (Nat.le_refl _) _).setCell (Nat.le_refl _) _,
            (hown.set hko B3.out).set (by simpa using hko1) (by have := B4.out; have := gC hs; omega), ?_, fun j hj => ?_, ?_⟩
          · show ac _ = _
            have h1 := cU (o.set k (o[k] + lo)) (k + 1) (hi) (by simpa using hko1)
            have h3 := HS.out (o[k] + lo)
            have h4 : (o.set k (o[k] + lo))[k + 1]'(by simpa using hko1) = 0 := by rw [List.getElem_set_ne (by omega)]; exact E0.out
            rw [h4] at h1
            rw [HT.out, Nat.add_mul, ← HE.out, Nat.mul_assoc, ← HDM.out, Nat.mul_add, ← Nat.mul_assoc, ← Nat.pow_succ, Nat.succ_eq_add_one]
            rw [Nat.mul_add] at h3
            omega
          · have := HZ.out j (by omega)
            simpa [List.getD, List.getElem?_set, show ¬ k = j by omega, show ¬ k + 1 = j by omega] using this
          show ((o.set k _).set (k + 1) _).getD (k + 1) 0 < 2 ^ s
          simp [List.getD, hko1]
          exact B4.out
        case measure => simp [intOf]; omega
      have hn1 : n = k + 1 := by omega
      have HN1 := hid hn1
      clear hn1
      go_wp2
      go_roundw
      case rel =>
        rw [B1.out]
        have hfull : xs.take (k + 1) = xs := List.take_of_length_le (by omega)
        have hV := HV.out
        have hsmall : hi = 0 := by
          have hlt' : xs[k] * 2 ^ s < 4294967296 := by
            have h5 := HT.out
            rw [hfull] at h5
            rw [h5, HN1.out, Nat.add_mul, ← HE.out, Nat.mul_assoc, Nat.pow_succ] at hV
            exact Nat.lt_of_mul_lt_mul_left (a := 4294967296 ^ k) (by omega)
          have := HDM.out
          omega
        refine ⟨k + 1, o.set k (o[k] + lo), by omega, by go_num, hbw.setCell (Nat.le_refl _) _, hown.set hko B3.out, ?_, fun j hj => ?_, ?_⟩
        · show ac _ = _
          have h3 := HS.out (o[k] + lo)
          have h6 := HDM.out
          rw [hsmall, Nat.mul_zero, Nat.zero_add] at h6
          rw [HT.out, Nat.add_mul, ← HE.out, Nat.mul_assoc, ← h6]
          rw [Nat.mul_add] at h3
          omega
        · have := HZ.out j (by omega)
          simpa [List.getD, List.getElem?_set, show ¬ k = j by omega] using this
        show (o.set k _).getD (k + 1) 0 < 2 ^ s
        have h7 : (o.set k (o[k] + lo)).length ≤ k + 1 := by have := hown.1; have := HN1.out; simp; omega
        simp only [List.getD, List.getElem?_eq_none h7, Option.getD_none]
        exact Nat.pow_pos (by decide)
      case measure => simp [intOf]; omega
    have hs' : ac o = ac xs * 2 ^ s := by have := HE.out; rwa [List.take_of_length_le (by omega)] at this
    have HS' := hid hs'
    clear hs'
    go_wp2
    go_ret
    exact ⟨_, o, rfl, Nat.le_refl _, hown, HS'.out, hbw⟩
theorem yz {x c lo hi s:Nat} (hx:x<4294967296) (hs:s<32) (hl:c+lo<4294967296) (hh:hi<2^s) (h:4294967296*hi+lo=x*2^s):IntKind.u64.wrap ((x:Int)*2^s)/4294967296%4294967296=(hi:Int):=by
 have hp:=gC hs;have ht:x*2^s<=4294967295*2147483648:=Nat.mul_le_mul (by omega) hp;have e1:(x:Int)*2^s=((x*2^s:Nat):Int):=by rw [Int.natCast_mul,Int.natCast_pow];rfl
 have e2:IntKind.u64.wrap ((x:Int)*2^s)=((x*2^s:Nat):Int):=by rw [e1];exact IntWalk.u64_in _ (by omega)
 rw [e2,←h];omega
theorem kc (S : Nat → Prop) (u : Value) (xs : List Nat) (s : Nat) (w : World) (hS : ∀ b, S b → b < w.heap.size) (hn : xs.length ≤ 999999999999) (hs : s < 32) (hu : ax 1 bi w S [u] xs) :
    Calls prog 216 #[u, .int .u64 s] w fun e w' => ∃ g o, e = .returned (.slice (some ⟨g, 0, none⟩) (xs.length + 1) (xs.length + 1)) ∧ w.heap.size ≤ g ∧ OwnL w' g (xs.length + 1) o ∧ ac o = ac xs * 2 ^ s ∧ Below w.heap.size w w' := by
  have hxlt := hid (eN hu)
  obtain ⟨xa, xc, rfl, x1, x2, x3, x4⟩ := aM hu
  have hn' := dX x1 x2
  obtain ⟨n, hnn⟩ : ∃ n, n = xs.length + 1 := ⟨_, rfl⟩
  rw [← hnn]
  have hm1 : (xs.length : Int) + 1 = (n : Int) := by omega
  have hmk := fun (w : World) => cy (P := prog) underlying150 Tryz.infoU32 rfl w n (by omega) (by omega)
  have hxn : xs.length < n := by omega
  have HNN := hid hnn
  clear hnn
  go_enter func216, ntmps216
  go_wp2
  clear hmk
  go_loopw [6, 7] (fun i _ wr => ∃ (k : Nat) (o : List Nat), k ≤ xs.length ∧ i = .int .i64 k ∧ Below w.heap.size w wr ∧ OwnL wr w.heap.size n o ∧
      Hid (ac o = ac (xs.take k) * 2 ^ s) ∧ Hid (∀ j, k < j → o.getD j 0 = 0) ∧ Hid (o.getD k 0 < 2 ^ s)) (fun i _ _ => xs.length - (intOf i).toNat)
  case atStart =>
    refine ⟨0, _, Nat.zero_le _, rfl, (Below.refl _ _).alloc (Nat.le_refl _) _, OwnL.new _ _, ?_, fun j _ => ?_, ?_⟩
    · show ac _ = ac (xs.take 0) * 2 ^ s; rw [d9]; simp [ac]
    · simp [List.getD, List.getElem?_replicate]; split <;> rfl
    show (List.replicate n 0).getD 0 0 < 2 ^ s
    have : (List.replicate n 0).getD 0 0 = 0 := by simp [List.getD, List.getElem?_replicate]; split <;> rfl
    rw [this]; exact Nat.pow_pos (by decide)
  case round =>
    obtain ⟨k, o, hk, rfl, hbw, hown, HE, HZ, HC⟩ := hrel
    by_cases hlt : k < xs.length
    · rcases x4 with rfl | ⟨b1, off1, rfl, x4⟩
      · simp at hlt
      obtain ⟨g0, g1⟩ := x4.u32 hlt
      rw [← hbw.cell (p := ⟨b1, off1 + k, none⟩) (hS _ x4.1)] at g0
      have hko : k < o.length := by rw [hown.1]; omega
      have c1 := hown.cell hko
      have c2 := hown.frozen k
      have ek : o.getD k 0 = o[k] := by simp [List.getD, hko]
      have hck := HC.out
      rw [ek] at hck
      obtain ⟨lo, hi, b1', b2', b3', b4', hdm⟩ := oQ (x := xs[k]) (c := o[k]) g1 hs hck
      have HT := hid (br xs k hlt)
      have HS := hid (fun d => cU o k d hko)
      have HDM := hid hdm
      have B1 := hid b1'
      have B2 := hid b2'
      have B3 := hid b3'
      have B4 := hid b4'
      have CK := hid hck
      have hb2 := yz g1 hs b3' b4' hdm
      have B5 := hid hb2
      clear hb2 b1' b2' b3' b4' hck ek hdm
      by_cases hk1 : k + 1 < n
      · have hko1 : k + 1 < o.length := by rw [hown.1]; omega
        have e0 : o[k + 1] = 0 := by have := HZ.out (k + 1) (by omega); simpa [List.getD, hko1] using this
        have c3 := hown.cell hko1
        rw [e0] at c3
        have E0 := hid e0
        clear e0
        have c4 := hown.frozen (k + 1)
        go_wp2
        go_roundw
        case rel =>
          rw [B1.out, B5.out]
          have h2 : x2 = x2 := rfl
          refine ⟨k + 1, (o.set k (o[k] + lo)).set (k + 1) (hi), by omega, by go_num, (hbw.setCell (Nat.le_refl _) _).setCell (Nat.le_refl _) _,
            (hown.set hko B3.out).set (by simpa using hko1) (by have := B4.out; have := gC hs; omega), ?_, fun j hj => ?_, ?_⟩
          · show ac _ = _
            have h1 := cU (o.set k (o[k] + lo)) (k + 1) (hi) (by simpa using hko1)
            have h3 := HS.out (o[k] + lo)
            have h4 : (o.set k (o[k] + lo))[k + 1]'(by simpa using hko1) = 0 := by rw [List.getElem_set_ne (by omega)]; exact E0.out
            rw [h4] at h1
            rw [HT.out, Nat.add_mul, ← HE.out, Nat.mul_assoc, ← HDM.out, Nat.mul_add, ← Nat.mul_assoc, ← Nat.pow_succ, Nat.succ_eq_add_one]
            rw [Nat.mul_add] at h3
            omega
          · have := HZ.out j (by omega)
            simpa [List.getD, List.getElem?_set, show ¬ k = j by omega, show ¬ k + 1 = j by omega] using this
          show ((o.set k _).set (k + 1) _).getD (k + 1) 0 < 2 ^ s
          simp [List.getD, hko1]
          exact B4.out
        case measure => simp [intOf]; omega
      exact absurd (by have := HNN.out; omega) hk1
    have hk' : k = xs.length := by omega
    have hval : ac o = ac xs * 2 ^ s := by
      rw [HE.out, List.take_of_length_le (by omega)]
    have HVAL := hid hval
    clear hval
    go_wp2
    go_ret
    exact ⟨_, _, rfl, Nat.le_refl _, hown, HVAL.out, hbw⟩
theorem tc (x r:Nat) (hx:x<4294967296) (hr:r<4294967296):bits .or .u64 (x:Int) ((r:Int)*4294967296)=((r*4294967296+x:Nat):Int):=by
 have e:(r:Int)*4294967296=((r*2^32:Nat):Int):=by rw [Int.natCast_mul];rfl
 rw [e,u64_or_nat _ _ (by omega) (by omega),ni x r 32 (by omega)]
theorem iP {xs:List Nat} (hxs:∀x∈xs,x<4294967296) (i s:Nat) (hi:i<xs.length) (hs:s<32):(xs.getD (i+1) 0*4294967296+xs[i])/2^s%4294967296=ac xs/2^s/4294967296^i%4294967296:=by
 have hx:∃r l,ac xs=l+4294967296^i*(xs[i]+4294967296*xs.getD (i+1) 0+18446744073709551616*r)/\l=ac (xs.take i):=by
  refine ⟨ac (xs.drop (i+2)),ac (xs.take i),?_,rfl⟩;have e1:ac xs=ac (xs.take i)+4294967296^i*ac (xs.drop i):=by
   conv=>lhs;rw [←List.take_append_drop i xs]
   rw [cG,List.length_take,Nat.min_eq_left (by omega)]
  have e2:ac (xs.drop i)=xs[i]+4294967296*ac (xs.drop (i+1)):=by rw [List.drop_eq_getElem_cons hi];rfl
  have e3:ac (xs.drop (i+1))=xs.getD (i+1) 0+4294967296*ac (xs.drop (i+2)):=by
   by_cases h:i+1<xs.length
   ·rw [List.drop_eq_getElem_cons h];simp [List.getD,h,ac]
   rw [List.drop_of_length_le (by omega),List.drop_of_length_le (by omega)];simp [List.getD,List.getElem?_eq_none (by omega:xs.length<=i+1),ac]
  rw [e1,e2,e3,Nat.mul_add 4294967296 (xs.getD (i+1) 0)];congr 2;omega
 obtain ⟨r,l,hR,hl⟩:=hx;have hl':l<4294967296^i:=by
  have:=aP (xs:=xs.take i) (fun x hx=>hxs x (List.mem_of_mem_take hx));rw [List.length_take,Nat.min_eq_left (by omega)] at this;rw [hl];exact this
 rw [Nat.div_div_eq_div_mul,Nat.mul_comm (2^s),←Nat.div_div_eq_div_mul,hR,Nat.add_mul_div_left _ _ (jL i),Nat.div_eq_of_lt hl',Nat.zero_add];have e1:(18446744073709551616:Nat)*r=2^s*(4294967296*(2^(32-s)*r)):=by
  have:(18446744073709551616:Nat)=2^s*(4294967296*2^(32-s)):=by
   have e2:(4294967296:Nat)=2^32:=by decide
   rw [e2,←Nat.pow_add,←Nat.pow_add,show s+(32+(32-s))=64 by omega]
  conv=>lhs;rw [this]
  rw [Nat.mul_assoc,Nat.mul_assoc]
 rw [e1,Nat.add_mul_div_left _ _ (Nat.pow_pos (by decide)),Nat.add_mul_mod_self_left,Nat.mul_comm (xs.getD (i+1) 0),Nat.add_comm]
theorem oR (S : Nat → Prop) (u : Value) (xs : List Nat) (s : Nat) (w : World) (hS : ∀ b, S b → b < w.heap.size) (hl : xs.length ≤ 1000000000000) (hs : s < 32) (hu : ax 1 bi w S [u] xs) :
    Calls prog 203 #[u, .int .u64 s] w fun e w' => ∃ r, e = .returned r ∧ ax 1 bi w' (LT w'.heap.size) [r] (ae (ac xs / 2 ^ s)) ∧ Below w.heap.size w w' := by
  have hxlt := hid (eN hu)
  obtain ⟨xa, xc, rfl, x1, x2, x3, x4⟩ := aM hu
  have hn' := dX x1 x2
  have hmk := fun (w : World) => cy (P := prog) underlying218 Tryz.infoU32 rfl w xs.length (by omega) (by omega)
  go_enter func203, ntmps203
  go_wp2
  clear hmk
  go_loopw [6, 7, 13] (fun _ _ i wr => ∃ (k : Nat) (o : List Nat), k ≤ xs.length ∧ i = .int .i64 k ∧ Below w.heap.size w wr ∧ OwnL wr w.heap.size xs.length o ∧
      Hid (∀ j, j < k → o.getD j 0 = ac xs / 2 ^ s / 4294967296 ^ j % 4294967296)) (fun _ _ i _ => xs.length - (intOf i).toNat)
  case atStart => exact ⟨0, _, Nat.zero_le _, rfl, (Below.refl _ _).alloc (Nat.le_refl _) _, OwnL.new _ _, fun j hj => by omega⟩
  case round =>
    obtain ⟨k, o, hk, rfl, hbw, hown, HE⟩ := hrel
    by_cases hlt : k < xs.length
    · rcases x4 with rfl | ⟨b1, off1, rfl, x4⟩
      · simp at hlt
      obtain ⟨g0, g1⟩ := x4.u32 hlt
      rw [← hbw.cell (p := ⟨b1, off1 + k, none⟩) (hS _ x4.1)] at g0
      have hko : k < o.length := by rw [hown.1]; omega
      have c1 := hown.cell hko
      have c2 := hown.frozen k
      have HD := hid (iP hxlt.out k s hlt hs)
      obtain ⟨x, hx⟩ : ∃ x, x = xs[k] := ⟨_, rfl⟩
      rw [← hx] at g0 g1 HD
      clear hx
      by_cases hk1 : k + 1 < xs.length
      · obtain ⟨f0, f1⟩ := x4.u32 hk1
        rw [← hbw.cell (p := ⟨b1, off1 + (k + 1), none⟩) (hS _ x4.1)] at f0
        have ey : xs.getD (k + 1) 0 = xs[k + 1] := by simp [List.getD, hk1]
        rw [ey] at HD
        obtain ⟨y, hy⟩ : ∃ y, y = xs[k + 1] := ⟨_, rfl⟩
        rw [← hy] at f0 f1 HD
        clear hy ey
        have o1 := tc x y g1 f1
        obtain ⟨d, hd⟩ : ∃ d : Nat, d = (y * 4294967296 + x) / 2 ^ s % 4294967296 := ⟨_, rfl⟩
        have hd1 : d < 4294967296 := by rw [hd]; exact Nat.mod_lt _ (by decide)
        have HV := hid (show ((y : Int) * 4294967296 + (x : Int)) / 2 ^ s % 4294967296 = (d : Int) by
          rw [hd, Int.natCast_emod, Int.natCast_ediv, Int.natCast_pow]; try rw [Int.natCast_add, Int.natCast_mul]
          rfl)
        skip
        rw [HD.out] at hd
        have HD2 := hid hd
        clear hd HD
        go_wp2
        go_roundw
        case rel =>
          rw [HV.out]
          refine ⟨k + 1, o.set k d, by omega, by go_num, hbw.setCell (Nat.le_refl _) _, hown.set hko hd1, fun j hj => ?_⟩
          by_cases hjk : j = k
          · subst hjk; rw [← HD2.out]; simp [List.getD, hko]
          rw [← HE.out j (by omega)]; simp [List.getD, show ¬ k = j by omega]
        case measure => simp [intOf]; omega
      have ey : xs.getD (k + 1) 0 = 0 := by simp [List.getD, List.getElem?_eq_none (by omega : xs.length ≤ k + 1)]
      rw [ey] at HD
      clear ey
      obtain ⟨d, hd⟩ : ∃ d : Nat, d = x / 2 ^ s % 4294967296 := ⟨_, rfl⟩
      have hd1 : d < 4294967296 := by rw [hd]; exact Nat.mod_lt _ (by decide)
      have HV := hid (show (x : Int) / 2 ^ s % 4294967296 = (d : Int) by
        rw [hd, Int.natCast_emod, Int.natCast_ediv, Int.natCast_pow]; try rw [Int.natCast_add, Int.natCast_mul]
        rfl)
      rw [show x = 0 * 4294967296 + x by omega] at hd
      rw [HD.out] at hd
      have HD2 := hid hd
      clear hd HD
      go_wp2
      go_roundw
      case rel =>
        rw [HV.out]
        refine ⟨k + 1, o.set k d, by omega, by go_num, hbw.setCell (Nat.le_refl _) _, hown.set hko hd1, fun j hj => ?_⟩
        by_cases hjk : j = k
        · subst hjk; rw [← HD2.out]; simp [List.getD, hko]
        rw [← HE.out j (by omega)]; simp [List.getD, show ¬ k = j by omega]
      case measure => simp [intOf]; omega
    have hoe : o = cq xs.length (ac xs / 2 ^ s) := by
      apply List.ext_getElem?
      intro j
      by_cases hj : j < xs.length
      · have h1 := HE.out j (by omega)
        rw [eb _ _ _ hj, ← h1]
        have : j < o.length := by rw [hown.1]; exact hj
        simp [List.getD, this]
      rw [List.getElem?_eq_none (by rw [hown.1]; omega), List.getElem?_eq_none (by rw [cj]; omega)]
    have hval : ac o = ac xs / 2 ^ s := by
      rw [hoe, gA]
      apply Nat.mod_eq_of_lt
      exact Nat.lt_of_le_of_lt (Nat.div_le_self _ _) (aP hxlt.out)
    have hT := ga _ _ _ _ (hown.slice (by omega))
    rw [hval] at hT
    have HT := hid hT
    clear hval hoe hT
    go_wp2_with fail
    refine Calls.mono HT.out ?_
    rintro e' w3 ⟨r, rfl, rfl, hr⟩
    go_wp2
    go_ret
    exact ⟨_, rfl, hr, hbw⟩
end Go.Proofs.YtcgpghifhehlhaaGreatDoor
section
/- Long division, one digit (Knuth's algorithm D): plain. -/
namespace Go.Proofs.YtcgpghifhehlhaaGreatDoor
section
variable {D U M D0 U0 dt d2 top u2 : Nat} (hD : D = (dt * 4294967296 + d2) * M + D0) (hU : U = (top * 4294967296 + u2) * M + U0) (hD0 : D0 < M) (hU0 : U0 < M)
include hD hU hU0
theorem mC {G R:Nat} (h:G*dt+R=top) (hg:R*4294967296+u2<G*d2):U<G*D:=by
 have h1:(top*4294967296+u2+1)*M<=(G*(dt*4294967296+d2))*M:=by
  apply Nat.mul_le_mul_right;rw [←h,Nat.mul_add,Nat.add_mul,←Nat.mul_assoc];omega
 rw [Nat.add_mul,Nat.one_mul] at h1;have h2:G*D=G*(dt*4294967296+d2)*M+G*D0:=by rw [hD,Nat.mul_add,←Nat.mul_assoc]
 rw [hU,h2];omega
include hD0
theorem AD {G R:Nat} (hdt:0<dt) (h:G*dt+R=top) (hg:G*d2<=R*4294967296+u2) (hG:G<=4294967296):G*D<=U+D:=by
 have h1:(G*(dt*4294967296+d2))*M<=(top*4294967296+u2)*M:=by
  apply Nat.mul_le_mul_right;rw [←h,Nat.mul_add,Nat.add_mul,←Nat.mul_assoc];omega
 have h2:G*D=G*(dt*4294967296+d2)*M+G*D0:=by rw [hD,Nat.mul_add,←Nat.mul_assoc]
 have h3:G*D0<=4294967296*M:=Nat.mul_le_mul hG (Nat.le_of_lt hD0);have h4:4294967296*M<=(dt*4294967296+d2)*M:=Nat.mul_le_mul_right _ (by omega);rw [h2];omega
end
theorem cm (xs:List Nat) (m:Nat) (hm:m<=xs.length):ac xs=ac (xs.take m)+4294967296^m*ac (xs.drop m):=by
 conv=>lhs;rw [←List.take_append_drop m xs]
 rw [cG,List.length_take,Nat.min_eq_left hm]
theorem lc {xs:List Nat} (h:∀x∈xs,x<4294967296) (m:Nat) (hl:xs.length=m+2):
  ∃X0,X0<4294967296^m/\ac xs=(xs.getD (m+1) 0*4294967296+xs.getD m 0)*4294967296^m+X0:=by
 refine ⟨ac (xs.take m),?_,?_⟩
 ·have:=aP (xs:=xs.take m) (fun x hx=>h x (List.mem_of_mem_take hx));rwa [List.length_take,Nat.min_eq_left (by omega)] at this
 rw [cm xs m (by omega)];have e:xs.drop m=[xs.getD m 0,xs.getD (m+1) 0]:=by
  rw [List.drop_eq_getElem_cons (by omega),List.drop_eq_getElem_cons (by omega),List.drop_of_length_le (by omega)];simp [List.getD,show m<xs.length by omega,show m+1<xs.length by omega]
 rw [e];simp only [ac];rw [Nat.mul_comm (4294967296^m),Nat.add_comm,Nat.mul_comm 4294967296,Nat.mul_zero,Nat.add_zero];congr 2;omega
theorem JW {xs:List Nat} (h:∀x∈xs,x<4294967296) (m:Nat) (hl:xs.length=m+3):
  ∃X0,X0<4294967296^m/\ac xs=((xs.getD (m+2) 0*4294967296+xs.getD (m+1) 0)*4294967296+xs.getD m 0)*4294967296^m+X0:=by
 refine ⟨ac (xs.take m),?_,?_⟩
 ·have:=aP (xs:=xs.take m) (fun x hx=>h x (List.mem_of_mem_take hx));rwa [List.length_take,Nat.min_eq_left (by omega)] at this
 rw [cm xs m (by omega)];have e:xs.drop m=[xs.getD m 0,xs.getD (m+1) 0,xs.getD (m+2) 0]:=by
  rw [List.drop_eq_getElem_cons (by omega),List.drop_eq_getElem_cons (by omega),List.drop_eq_getElem_cons (by omega),List.drop_of_length_le (by omega)];simp [List.getD,show m<xs.length by omega,show m+1<xs.length by omega,show m+2<xs.length by omega]
 rw [e];simp only [ac];rw [Nat.mul_comm (4294967296^m),Nat.add_comm,Nat.mul_zero,Nat.add_zero];congr 2;omega
theorem mD {U D G:Nat} (hD:0<D) (h1:U<(G+1)*D) (h2:G*D<=U+D):G=U/D∨G=U/D+1:=by
 have h3:U/D<=G:=by
  have:=Nat.div_lt_of_lt_mul (show U<D*(G+1) by rw [Nat.mul_comm];exact h1);omega
 have h4:G<=U/D+1:=by
  have h5:U<(U/D+1)*D:=by rw [Nat.mul_comm];exact Nat.lt_mul_div_succ U hD
  rcases Nat.lt_or_ge (U/D+1) G with h|h
  ·exfalso;have h6:(U/D+1+1)*D<=G*D:=Nat.mul_le_mul_right _ h;rw [Nat.add_mul,Nat.one_mul] at h6;omega
  exact h
 omega
theorem oS {D U M D0 U0 dt d2 un u1 u2:Nat} (hDe:D=(dt*4294967296+d2)*M+D0) (hUe:U=((un*4294967296+u1)*4294967296+u2)*M+U0) (hD0:D0<M) (l4:d2<4294967296) (hU:U<4294967296*D):un<=dt:=by
 rcases Nat.lt_or_ge dt un with h|h
 ·exfalso;have h1:(dt*4294967296+d2+1)*M<=(dt+1)*4294967296*M:=Nat.mul_le_mul_right _ (by omega);have h2:(dt+1)*4294967296*4294967296*M<=((un*4294967296+u1)*4294967296+u2)*M:=Nat.mul_le_mul_right _ (by omega);rw [Nat.add_mul,Nat.one_mul] at h1;have h3:(dt+1)*4294967296*4294967296*M=4294967296*((dt+1)*4294967296*M):=by rw [Nat.mul_assoc ((dt+1)*4294967296),Nat.mul_left_comm]
  omega
 exact h
theorem nt {W D U M D0 U0 dt d2 t u2 G0 R0:Nat} (hDe:D=(dt*W+d2)*M+D0) (hUe:U=(t*W+u2)*M+U0) (hU0:U0<M) (l2:u2<W)
  (hGR:G0*dt+R0=t) (hR0l:R0<dt):U<(G0+1)*D:=by
 have h1:t+1<=(G0+1)*dt:=by rw [Nat.add_mul];omega
 have h2:(t+1)*(W*M)<=(G0+1)*dt*(W*M):=Nat.mul_le_mul_right _ h1;have h3:dt*(W*M)<=D:=by
  rw [hDe,Nat.add_mul,Nat.mul_assoc,Nat.add_assoc];exact Nat.le_add_right _ _
 have h3':(G0+1)*(dt*(W*M))<=(G0+1)*D:=Nat.mul_le_mul_left _ h3;rw [←Nat.mul_assoc (G0+1) dt] at h3';have h5:t*W+u2+1<=(t+1)*W:=by rw [Nat.add_mul];omega
 have h6:(t*W+u2+1)*M<=(t+1)*W*M:=Nat.mul_le_mul_right _ h5;rw [Nat.add_mul (t*W+u2),Nat.one_mul,Nat.mul_assoc (t+1)] at h6;rw [hUe];generalize (t*W+u2)*M=a at *
 generalize (t+1)*(W*M)=b at *
 omega
theorem kd {D U M D0 U0 dt d2 un u1 u2 G0 R0:Nat} (hDe:D=(dt*4294967296+d2)*M+D0) (hUe:U=((un*4294967296+u1)*4294967296+u2)*M+U0) (hU0:U0<M) (l2:u2<4294967296)
  (hGR:G0*dt+R0=un*4294967296+u1) (hR0l:R0<dt):U<(G0+1)*D:=nt hDe hUe hU0 l2 hGR hR0l
theorem oT {dt un u1 G0 R0:Nat} (hdt:2147483648<=dt) (hun:un<=dt) (l1:u1<4294967296) (hGR:G0*dt+R0=un*4294967296+u1):G0<=4294967297:=by
 rcases Nat.lt_or_ge 4294967297 G0 with h|h
 ·exfalso;have:4294967298*dt<=G0*dt:=Nat.mul_le_mul_right _ h;omega
 exact h
theorem lf {U D G U':Nat} (hD:0<D) (h:G=U/D∨G=U/D+1) (he:U'+G*D=U):G=U/D/\U'=U%D:=by
 have h1:=Nat.div_add_mod U D;rw [Nat.mul_comm] at h1;have h2:=Nat.mod_lt U hD;rcases h with h|h
 ·rw [h] at he;exact ⟨h,by omega⟩
 exfalso;rw [h,Nat.add_mul] at he;omega
theorem lg {U D G U' P:Nat} (hD:0<D) (h:G=U/D∨G=U/D+1) (hP:U'<P) (he:U'+G*D=U+P):G=U/D+1/\U'+D=P+U%D:=by
 have h1:=Nat.div_add_mod U D;rw [Nat.mul_comm] at h1;rcases h with h|h
 ·exfalso;rw [h] at he;omega
 refine ⟨h,?_⟩;rw [h,Nat.add_mul] at he;omega
theorem cu {o:List Nat} {off k d:Nat} (hk:off+k<o.length):((o.set (off+k) d).drop off).take (k+1)=(o.drop off).take k++[d]:=by
 apply List.ext_getElem?;intro i;rcases Nat.lt_trichotomy i k with h|h|h
 ·rw [List.getElem?_append_left (by simp;omega)];simp [show i<k+1 by omega,h,show ¬k=i by omega]
 ·subst h;rw [List.getElem?_append_right (by simp;omega)];simp [hk,show min i (o.length-off)=i by omega]
 rw [List.getElem?_eq_none (by simp;omega),List.getElem?_eq_none (by simp;omega)]
theorem bO {o:List Nat} {off k:Nat} (hk:off+k<=o.length):((o.drop off).take k).length=k:=by simp;omega
theorem cv {o:List Nat} {off k:Nat} (hk:off+k<o.length):(o.drop off).take (k+1)=(o.drop off).take k++[o.getD (off+k) 0]:=by
 rw [List.take_succ_eq_append_getElem (by simp;omega)];simp [List.getD,hk]
end Go.Proofs.YtcgpghifhehlhaaGreatDoor
end
section
/- Contracts of the kit's shelf, laid at this translation by the kit's own tool: bits.Len32, bits.LeadingZeros32, strings.Compare. -/
namespace Go.Proofs
open Go.Shelf Go.Proofs.Tryz
def Tryz.lays133_ren:Go.Shelf.Ren:=⟨fun|133=>200|128=>213|n=>n,fun|51=>168|3=>3|4=>4|46=>69|5=>5|9=>9|n=>n,fun|n=>n⟩
theorem Tryz.lays133:Go.Proofs.Lays.n133 prog Tryz.lays133_ren:={
 mixed:=by kernel_rfl
 f128:=func213.trans (congrArg some (by kernel_rfl))
 f133:=func200.trans (congrArg some (by kernel_rfl))
 t3:=underlying3
 a3:=Tryz.isAgg3
 z3:=Tryz.sizeOf3
 v3:=Tryz.zeroValue3
 t4:=underlying4
 a4:=Tryz.isAgg4
 z4:=Tryz.sizeOf4
 v4:=Tryz.zeroValue4
 t5:=underlying5
 a5:=Tryz.isAgg5
 z5:=Tryz.sizeOf5
 v5:=Tryz.zeroValue5
 t9:=underlying9
 a9:=Tryz.isAgg9
 z9:=Tryz.sizeOf9
 v9:=Tryz.zeroValue9
 t46:=underlying69
 a46:=Tryz.isAgg69
 z46:=Tryz.sizeOf69
 v46:=Tryz.zeroValue69
 t51:=underlying168
 a51:=Tryz.isAgg168
 z51:=Tryz.sizeOf168
 v51:=Tryz.zeroValue168}
theorem Tryz.bits_LeadingZeros32 (x:Int) (w:World) (h0:0<=x) (h1:x<=4294967295):
  Calls prog 200 #[.int .u32 x] w fun e w'=>e= .returned (.int .i64 (32-(Lib.bitLen x.toNat:Int)))/\w'=w:=Any.bits_LeadingZeros32 Tryz.lays133 x w h0 h1
def Tryz.lays106_ren:Go.Shelf.Ren:=⟨fun|106=>163|213=>215|265=>244|n=>n,fun|9=>9|3=>3|n=>n,fun|n=>n⟩
theorem Tryz.lays106:Go.Proofs.Lays.n106 prog Tryz.lays106_ren:={
 mixed:=by kernel_rfl
 f106:=func163.trans (congrArg some (by kernel_rfl))
 f213:=func215.trans (congrArg some (by kernel_rfl))
 f265:=func244.trans (congrArg some (by kernel_rfl))
 t3:=underlying3
 a3:=Tryz.isAgg3
 z3:=Tryz.sizeOf3
 v3:=Tryz.zeroValue3
 t9:=underlying9
 a9:=Tryz.isAgg9
 z9:=Tryz.sizeOf9
 v9:=Tryz.zeroValue9}
open Go.RowKit in
theorem Tryz.strings_Compare (a b:ByteArray) (w:World):
  Calls prog 163 #[.string a,.string b] w fun e w'=>e= .returned (.int .i64 (Lib.compareBytes a.data.toList b.data.toList))/\w'=w:=Any.strings_Compare Tryz.lays106 a b w
end Go.Proofs
end
namespace Go.Proofs.YtcgpghifhehlhaaGreatDoor
open Go.RowKit Go.Proofs.Tryz
theorem ju (w:World) (S:Nat->Prop):ax 1 bi w S [.slice none 0 0] (ae 0):=by
 rw [bm];exact ⟨none,0,rfl,by simp,by unfold maxLen;omega,fun _=>rfl,.inl rfl⟩
theorem gV {y:Nat} (h:(ae y).length=1):ae y=[y]/\0<y/\y<4294967296:=by
 have h1:=am y;have h2:=bd y;match hl:ae y,h with
 |[z],_=>
  rw [hl] at h1 h2;simp only [ac] at h1;have h3:=h2 z (by simp);refine ⟨by simp;omega,?_,by omega⟩;rcases Nat.eq_zero_or_pos y with h0|h0
  ·subst h0;rw [bm] at hl;cases hl
  exact h0
theorem td (S:Nat->Prop) (u v:Value) (x y:Nat) (w:World) (hS:∀b,S b->b<w.heap.size) (hxy:x<y) (hu:ax 1 bi w S [u] (ae x)) (hv:ax 1 bi w S [v] (ae y)):
  Calls prog 155 #[u,v] w fun e w'=>∃q r,e= .returned (.tuple #[q,r])/\ax 1 bi w' (LT w'.heap.size) [q] (ae (x/y))/\ax 1 bi w' (LT w'.heap.size) [r] (ae (x%y))/\Below w.heap.size w w':=by
 have hc:=eV S u v x y w hS hu hv;rw [eF hxy] at hc;have HC:=hid hc;clear hc;go_enter func155,ntmps155
 go_wp2_with fail
 refine Calls.mono HC.out ?_;rintro e w1 ⟨rfl,hb1⟩;go_wp2
 go_ret2
 refine ⟨_,_,rfl,?_,?_,hb1⟩
 ·rw [Nat.div_eq_of_lt hxy];exact ju _ _
 rw [Nat.mod_eq_of_lt hxy];exact (aF aX) _ _ _ _ _ _ hu (fun b hb=>hb1.block b (hS b hb)) fun b hb=>Nat.lt_of_lt_of_le (hS b hb) hb1.size
theorem nu (S:Nat->Prop) (u v:Value) (x y:Nat) (w:World) (hS:∀b,S b->b<w.heap.size) (hl:(ae x).length<=1000000000000) (hxy:y<=x) (hy1:(ae y).length=1) (hu:ax 1 bi w S [u] (ae x)) (hv:ax 1 bi w S [v] (ae y)):
  Calls prog 155 #[u,v] w fun e w'=>∃q r,e= .returned (.tuple #[q,r])/\ax 1 bi w' (LT w'.heap.size) [q] (ae (x/y))/\ax 1 bi w' (LT w'.heap.size) [r] (ae (x%y))/\Below w.heap.size w w':=by
 obtain ⟨ey,hy0,hyW⟩:=gV hy1;have hc:=eV S u v x y w hS hu hv;have hcn:¬bj x y<0:=by unfold bj;rw [if_neg (by omega)];split<;>omega
 have HC:=hid hc;clear hc;have hv':=hv;have hu':=hid hu;have hvx:=hid (am x);rw [ey] at hv';obtain ⟨va,vc,rfl,v1,v2,v3,v4⟩:=aM hv';rcases v4 with v4|⟨vb,voff,rfl,v4⟩
 ·cases v4
 have g0:=(v4.u32 (j:=0) (by simp)).1;have hvS:=hS vb v4.1;simp only [List.getElem_cons_zero,Nat.add_zero] at g0;have hsz:([y]:List Nat).length=1:=rfl;clear hv hv' ey;go_enter func155,ntmps155
 go_wp2_with fail
 refine Calls.mono HC.out ?_;rintro e w1 ⟨rfl,hb1⟩;rw [←hb1.cell (p:=⟨vb,voff,none⟩) hvS] at g0;have hu1:ax 1 bi w1 (LT w1.heap.size) [u] (ae x):=(aF aX) _ _ _ _ _ _ hu'.out (fun b hb=>hb1.block b (hS b hb)) fun b hb=>Nat.lt_of_lt_of_le (hS b hb) hb1.size
 have HD:=hid (kj _ _ _ y _ (fun _ h=>h) hl hy0 hyW hu1);rw [hvx.out] at HD;have hxm:x%y<4294967296:=Nat.lt_of_lt_of_le (Nat.mod_lt _ hy0) (by omega);go_wp2_with fail
 refine Calls.mono HD.out ?_;rintro e w2 ⟨q,rfl,hq,hb2⟩;have hO:OwnL (w2.alloc (.cells #[.int .u32 ((x%y:Nat):Int)] 168)) w2.heap.size 1 [x%y]:=by
  refine ⟨rfl,fun z hz=>by simp at hz;omega,fun j=> .int .u32 (([x%y]:List Nat).getD j 0:Nat),?_,fun j=>rfl⟩;have:=Own.new w2 168 1 (fun j=> .int .u32 (([x%y]:List Nat).getD j 0:Nat));have e:(Array.range 1).map (fun j=>Value.int .u32 (([x%y]:List Nat).getD j 0:Nat))= #[.int .u32 ((x%y:Nat):Int)]:=by
   apply Array.ext';simp [List.range_succ]
  rw [e] at this;exact this
 have hT:=ga _ _ _ _ (hO.slice (by omega));have e1:ac [x%y]=x%y:=by simp [ac]
 rw [e1] at hT;have HT:=hid hT;have hb3:Below w2.heap.size w2 (w2.alloc (.cells #[.int .u32 ((x%y:Nat):Int)] 168)):=(Below.refl _ _).alloc (Nat.le_refl _) _;clear hT e1 hO hu1;go_wp2_with fail
 refine Calls.mono HT.out ?_;rintro e w3 ⟨r,rfl,rfl,hr⟩;go_wp2
 go_ret2
 exact ⟨_,_,rfl,(aF aX).below hq hb3 hb3.size,hr,hb1.step (hb2.step hb3)⟩
theorem qz (S:Nat->Prop) (u v:Value) (x y:Nat) (w:World) (hS:∀b,S b->b<w.heap.size) (hxy:x<y) (hu:ax 1 bi w S [u] (ae x)) (hv:ax 1 bi w S [v] (ae y)):
  Calls prog 129 #[u,v] w fun e w'=>∃q r,e= .returned (.tuple #[q,r])/\ax 1 bi w' (LT w'.heap.size) [q] (ae (x/y))/\ax 1 bi w' (LT w'.heap.size) [r] (ae (x%y))/\Below w.heap.size w w':=by
 have hc:=jP S u v x y w hS hu hv;rw [eF hxy] at hc;have HC:=hid hc;clear hc;go_enter func129,ntmps129
 go_wp2_with fail
 refine Calls.mono HC.out ?_;rintro e w1 ⟨rfl,hb1⟩;go_wp2
 go_ret2
 refine ⟨_,_,rfl,?_,?_,hb1⟩
 ·rw [Nat.div_eq_of_lt hxy];exact ju _ _
 rw [Nat.mod_eq_of_lt hxy];exact (aF aX) _ _ _ _ _ _ hu (fun b hb=>hb1.block b (hS b hb)) fun b hb=>Nat.lt_of_lt_of_le (hS b hb) hb1.size
theorem mc (S:Nat->Prop) (u v:Value) (x y:Nat) (w:World) (hS:∀b,S b->b<w.heap.size) (hl:(ae x).length<=1000000000000) (hxy:y<=x) (hy1:(ae y).length=1) (hu:ax 1 bi w S [u] (ae x)) (hv:ax 1 bi w S [v] (ae y)):
  Calls prog 129 #[u,v] w fun e w'=>∃q r,e= .returned (.tuple #[q,r])/\ax 1 bi w' (LT w'.heap.size) [q] (ae (x/y))/\ax 1 bi w' (LT w'.heap.size) [r] (ae (x%y))/\Below w.heap.size w w':=by
 obtain ⟨ey,hy0,hyW⟩:=gV hy1;have hc:=jP S u v x y w hS hu hv;have hcn:¬bj x y<0:=by unfold bj;rw [if_neg (by omega)];split<;>omega
 have HC:=hid hc;clear hc;have hv':=hv;have hu':=hid hu;have hvx:=hid (am x);rw [ey] at hv';obtain ⟨va,vc,rfl,v1,v2,v3,v4⟩:=aM hv';rcases v4 with v4|⟨vb,voff,rfl,v4⟩
 ·cases v4
 have g0:=(v4.u32 (j:=0) (by simp)).1;have hvS:=hS vb v4.1;simp only [List.getElem_cons_zero,Nat.add_zero] at g0;have hsz:([y]:List Nat).length=1:=rfl;clear hv hv' ey;go_enter func129,ntmps129
 go_wp2_with fail
 refine Calls.mono HC.out ?_;rintro e w1 ⟨rfl,hb1⟩;rw [←hb1.cell (p:=⟨vb,voff,none⟩) hvS] at g0;have hu1:ax 1 bi w1 (LT w1.heap.size) [u] (ae x):=(aF aX) _ _ _ _ _ _ hu'.out (fun b hb=>hb1.block b (hS b hb)) fun b hb=>Nat.lt_of_lt_of_le (hS b hb) hb1.size
 have HD:=hid (tb _ _ _ y _ (fun _ h=>h) hl hy0 hyW hu1);rw [hvx.out] at HD;have hxm:x%y<4294967296:=Nat.lt_of_lt_of_le (Nat.mod_lt _ hy0) (by omega);go_wp2_with fail
 refine Calls.mono HD.out ?_;rintro e w2 ⟨q,rfl,hq,hb2⟩;have hO:OwnL (w2.alloc (.cells #[.int .u32 ((x%y:Nat):Int)] 168)) w2.heap.size 1 [x%y]:=by
  refine ⟨rfl,fun z hz=>by simp at hz;omega,fun j=> .int .u32 (([x%y]:List Nat).getD j 0:Nat),?_,fun j=>rfl⟩;have:=Own.new w2 168 1 (fun j=> .int .u32 (([x%y]:List Nat).getD j 0:Nat));have e:(Array.range 1).map (fun j=>Value.int .u32 (([x%y]:List Nat).getD j 0:Nat))= #[.int .u32 ((x%y:Nat):Int)]:=by
   apply Array.ext';simp [List.range_succ]
  rw [e] at this;exact this
 have hT:=ge _ _ _ _ (hO.slice (by omega));have e1:ac [x%y]=x%y:=by simp [ac]
 rw [e1] at hT;have HT:=hid hT;have hb3:Below w2.heap.size w2 (w2.alloc (.cells #[.int .u32 ((x%y:Nat):Int)] 168)):=(Below.refl _ _).alloc (Nat.le_refl _) _;clear hT e1 hO hu1;go_wp2_with fail
 refine Calls.mono HT.out ?_;rintro e w3 ⟨r,rfl,rfl,hr⟩;go_wp2
 go_ret2
 exact ⟨_,_,rfl,(aF aX).below hq hb3 hb3.size,hr,hb1.step (hb2.step hb3)⟩
theorem jv {w w':World} {g:Nat} (h:w.grownBy w' (some g)) (p:Nat) (v:Value):w.grownBy (w'.setCell ⟨g,p,none⟩ v) (some g):=
 ⟨h.os,h.tape,h.output,by simpa using h.size,fun k hk hne=>by rw [Below.heap_setCell _ _ _ _ (fun e=>hne (by rw [e]))];exact h.block k hk hne⟩
theorem dO {w w':World} {r:Option Nat} (h:w.grownBy w' r) (n:Nat):w.grownBy (w'.drewN n) r:=⟨h.os,h.tape,h.output,h.size,h.block⟩
theorem iA {w w':World} {g b:Nat} (h:w.grownBy w' (some g)) (hb:b<w.heap.size) (hne:b≠g) (o:Nat):w'.cell? ⟨b,o,none⟩=w.cell? ⟨b,o,none⟩:=
 World.cell?_of_block (h.block b hb (fun e=>hne (Option.some.inj e)))
theorem OwnL.drewN {w:World} {g n:Nat} {o:List Nat} (h:OwnL w g n o) (k:Nat):OwnL (w.drewN k) g n o:=h
theorem uv (S : Nat → Prop) (v : Value) (ds o : List Nat) (g off N cap n : Nat) (w : World) (hS : ∀ b, S b → b < w.heap.size ∧ b ≠ g) (hN : N ≤ 1000000000000) (hn2 : 2 ≤ n) (hdl : ds.length = n) (hoff : off + n < N) (hcap : n + 1 ≤ cap)
    (hv : ax 1 bi w S [v] ds) (hown : OwnL w g N o) (htop : 2147483648 ≤ ds.getD (n - 1) 0) (hU : ac ((o.drop off).take (n + 1)) < 4294967296 * ac ds) :
    Calls prog 202 #[.slice (some ⟨g, off, none⟩) (n + 1) cap, v] w fun e w' => ∃ o', e = .returned (.int .u32 ((ac ((o.drop off).take (n + 1)) / ac ds : Nat) : Int)) ∧ OwnL w' g N o' ∧
      (∀ j, j < off ∨ off + n < j → o'.getD j 0 = o.getD j 0) ∧ ac ((o'.drop off).take (n + 1)) = ac ((o.drop off).take (n + 1)) % ac ds ∧ w.grownBy w' (some g) := by
  have hdlt := hid (eN hv)
  obtain ⟨da, dc, rfl, x1, x2, x3, x4⟩ := aM hv
  rcases x4 with rfl | ⟨db, doff, rfl, x4⟩
  · simp at hdl; omega
  rw [hdl]
  have n1 : (n : Int) - 1 = ((n - 1 : Nat) : Int) := by omega
  have n2 : (n : Int) - 2 = ((n - 2 : Nat) : Int) := by omega
  have hol := hown.1
  have hw0 : off + n < o.length := by omega
  have hw1 : off + (n - 1) < o.length := by omega
  have hw2 : off + (n - 2) < o.length := by omega
  have c0 := hown.cell hw0
  have c1 := hown.cell hw1
  have c2 := hown.cell hw2
  have hd1 : n - 1 < ds.length := by omega
  have hd2 : n - 2 < ds.length := by omega
  have k1 := (x4.u32 hd1).1
  have k2 := (x4.u32 hd2).1
  obtain ⟨un, hun⟩ : ∃ x, x = o[off + n] := ⟨_, rfl⟩
  obtain ⟨u1, hu1⟩ : ∃ x, x = o[off + (n - 1)] := ⟨_, rfl⟩
  obtain ⟨u2, hu2⟩ : ∃ x, x = o[off + (n - 2)] := ⟨_, rfl⟩
  obtain ⟨dt, hdt⟩ : ∃ x, x = ds[n - 1] := ⟨_, rfl⟩
  obtain ⟨d2, hd2'⟩ : ∃ x, x = ds[n - 2] := ⟨_, rfl⟩
  have l0 : un < 4294967296 := by rw [hun]; exact hown.2.1 _ (List.getElem_mem hw0)
  have l1 : u1 < 4294967296 := by rw [hu1]; exact hown.2.1 _ (List.getElem_mem hw1)
  have l2 : u2 < 4294967296 := by rw [hu2]; exact hown.2.1 _ (List.getElem_mem hw2)
  have l3 : dt < 4294967296 := by rw [hdt]; exact hdlt.out _ (List.getElem_mem hd1)
  have l4 : d2 < 4294967296 := by rw [hd2']; exact hdlt.out _ (List.getElem_mem hd2)
  have htop' : 2147483648 ≤ dt := by simpa [List.getD, hd1, ← hdt] using htop
  rw [← hun] at c0
  rw [← hu1] at c1
  rw [← hu2] at c2
  rw [← hdt] at k1
  rw [← hd2'] at k2
  have o1 := fx un u1 l0 l1
  obtain ⟨G0, hG0⟩ : ∃ G : Nat, G = (un * 4294967296 + u1) / dt := ⟨_, rfl⟩
  obtain ⟨R0, hR0⟩ : ∃ R : Nat, R = (un * 4294967296 + u1) % dt := ⟨_, rfl⟩
  have hGR : G0 * dt + R0 = un * 4294967296 + u1 := by rw [hG0, hR0, Nat.mul_comm]; exact Nat.div_add_mod _ _
  have hR0l : R0 < dt := by rw [hR0]; exact Nat.mod_lt _ (by omega)
  have eT : ((un * 4294967296 + u1 : Nat) : Int) = (un : Int) * 4294967296 + (u1 : Int) := by omega
  have q1 : ((un : Int) * 4294967296 + (u1 : Int)) / (dt : Int) = (G0 : Int) := by rw [hG0, Int.natCast_ediv, eT]
  have q2 : ((un : Int) * 4294967296 + (u1 : Int)) % (dt : Int) = (R0 : Int) := by rw [hR0, Int.natCast_emod, eT]
  clear eT
  have Hun := hid hun
  have Hu1 := hid hu1
  have Hu2 := hid hu2
  have Hdt := hid hdt
  have Hd2 := hid hd2'
  have HGR := hid hGR
  have HU := hid hU
  have Hol := hid hol
  have Hdl := hid hdl
  obtain ⟨D, hD⟩ : ∃ D, D = ac ds := ⟨_, rfl⟩
  obtain ⟨U, hUU⟩ : ∃ U, U = ac ((o.drop off).take (n + 1)) := ⟨_, rfl⟩
  have hM : ∃ M D0 U0, 0 < M ∧ D0 < M ∧ U0 < M ∧ D = (dt * 4294967296 + d2) * M + D0 ∧ U = ((un * 4294967296 + u1) * 4294967296 + u2) * M + U0 := by
    obtain ⟨D0, h1, h2⟩ := lc hdlt.out (n - 2) (by omega)
    obtain ⟨U0, h3, h4⟩ := JW (xs := (o.drop off).take (n + 1)) (fun x hx => hown.2.1 x (List.mem_of_mem_drop (List.mem_of_mem_take hx))) (n - 2) (by simp; omega)
    refine ⟨4294967296 ^ (n - 2), D0, U0, jL _, h1, h3, ?_, ?_⟩
    · rw [hD, h2, show n - 2 + 1 = n - 1 by omega]
      simp [List.getD, hd1, hd2, ← hdt, ← hd2']
    rw [hUU, h4, show n - 2 + 1 = n - 1 by omega, show n - 2 + 2 = n by omega]
    have g0 : ((o.drop off).take (n + 1)).getD n 0 = un := by simp [List.getD, hw0, ← hun]
    have g1 : ((o.drop off).take (n + 1)).getD (n - 1) 0 = u1 := by simp [List.getD, hw1, ← hu1, show n - 1 < n + 1 by omega]
    have g2 : ((o.drop off).take (n + 1)).getD (n - 2) 0 = u2 := by simp [List.getD, hw2, ← hu2, show n - 2 < n + 1 by omega]
    rw [g0, g1, g2]
  rw [← hD, ← hUU] at hU HU
  rw [← hD, ← hUU]
  obtain ⟨M, D0, U0, hM0, hD0, hU0, hDe, hUe⟩ := hM
  have hun_le : un ≤ dt := oS hDe hUe hD0 l4 hU
  have hG0l : G0 ≤ 4294967297 := oT htop' hun_le l1 hGR
  have hGU : U < (G0 + 1) * D := kd hDe hUe hU0 l2 hGR hR0l
  have hDpos : 0 < D := by
    rw [hDe]
    have : 1 * M ≤ (dt * 4294967296 + d2) * M := Nat.mul_le_mul_right _ (by omega)
    omega
  have HdecL := hid (fun G R h hg => mC (G := G) (R := R) hDe hUe hU0 h hg)
  have HexitL := hid (fun G R h hg hG => AD (G := G) (R := R) hDe hUe hD0 hU0 (by omega) h hg hG)
  have HD := hid hD
  have HUU := hid hUU
  have HGU := hid hGU
  have HU' := hid hU
  clear hun hu1 hu2 hdt hd2' hGR hG0 hR0 hU hol hdl htop hD hUU hDe hUe hGU hM0 hD0 hU0 HU
  go_enter func202, ntmps202
  go_wp2
  go_quiet (fail)
  go_wp2
  go_quiet (fail)
  go_upto_block 0 with fail
  go_cut [7, 8] (fun s7 _ wx => ∃ G : Nat, s7 = .int .u64 G ∧ G ≤ 4294967296 ∧ Hid (U < (G + 1) * D) ∧ Hid (G * D ≤ U + D) ∧ OwnL wx g N o ∧ w.grownBy wx (some g))
  case first =>
    go_wp2_with fail
    go_loopw [7, 8] (fun s7 s8 wr => ∃ G R : Nat, s7 = .int .u64 G ∧ s8 = .int .u64 R ∧ Hid (G * dt + R = un * 4294967296 + u1) ∧ R < 4294967296 ∧ G ≤ 4294967297 ∧ Hid (U < (G + 1) * D) ∧ OwnL wr g N o ∧ w.grownBy wr (some g)) (fun s7 _ _ => (intOf s7).toNat)
    case atStart => exact ⟨G0, R0, by rw [q1], by rw [q2], HGR, by omega, hG0l, HGU, hown, dO (dO (World.grownBy.refl _ _) _) _⟩
    case round =>
      clear c0 c1 c2 k1 k2 hown
      obtain ⟨G, R, rfl, rfl, HG, hR, hGl, HGu, hown, hgr⟩ := hrel
      have k1 := (x4.u32 hd1).1
      have k2 := (x4.u32 hd2).1
      rw [← iA hgr (hS _ x4.1).1 (hS _ x4.1).2, ← Hdt.out] at k1
      rw [← iA hgr (hS _ x4.1).1 (hS _ x4.1).2, ← Hd2.out] at k2
      have c2 := hown.cell hw2
      rw [← Hu2.out] at c2
      by_cases hA : 4294967296 ≤ G
      · have dA : decide ((4294967296 : Int) ≤ (G : Int)) = true := by simp; omega
        have HG0 := hid (show 0 < G by omega)
        have HLT := hid (show U < G * D from Nat.lt_of_lt_of_le HU'.out (Nat.mul_le_mul_right _ hA))
        have e1 : IntKind.u64.wrap ((G : Int) - 1) = ((G - 1 : Nat) : Int) := by
          have : (G : Int) - 1 = ((G - 1 : Nat) : Int) := by omega
          rw [this]; exact IntWalk.u64_in _ (by omega)
        have e2 : IntKind.u64.wrap ((R : Int) + (dt : Int)) = (R : Int) + (dt : Int) := IntWalk.u64_in _ (by omega)
        have hq : Hid (U < (G - 1 + 1) * D) := by show U < (G - 1 + 1) * D; rw [show G - 1 + 1 = G by omega]; exact HLT.out
        have hgr2 : Hid ((G - 1) * dt + (R + dt) = un * 4294967296 + u1) := by
          show (G - 1) * dt + (R + dt) = un * 4294967296 + u1
          rw [← HG.out]
          have : G * dt = (G - 1) * dt + dt := by conv => lhs; rw [show G = G - 1 + 1 by omega, Nat.add_mul, Nat.one_mul]
          omega
        have hG1 : G - 1 ≤ 4294967296 := by omega
        by_cases hB : 4294967296 ≤ R + dt
        · have dB : decide ((4294967296 : Int) ≤ (R : Int) + (dt : Int)) = true := by simp; omega
          have hex : Hid ((G - 1) * D ≤ U + D) := HexitL.out (G - 1) (R + dt) hgr2.out (by
            have h1 : (G - 1) * d2 ≤ 4294967296 * 4294967296 := Nat.mul_le_mul hG1 (by omega)
            have h2 : 4294967296 * 4294967296 ≤ (R + dt) * 4294967296 := Nat.mul_le_mul_right _ hB
            omega) hG1
          have HB := hid hB
          clear hA hGl hB
          go_wp2
          go_quiet (fail)
          go_upto_region 7 with fail
          go_wp2
          go_meet
          case rel => exact ⟨G - 1, rfl, hG1, hq, hex, hown.drewN _, dO hgr _⟩
        have dB : decide ((4294967296 : Int) ≤ (R : Int) + (dt : Int)) = false := by simp; omega
        have HB := hid hB
        have hRd : R + dt < 4294967296 := by omega
        have HRd := hid hRd
        clear hA hGl hB hRd
        go_wp2
        go_quiet (fail)
        go_upto_region 7 with fail
        go_wp2
        go_roundw
        case rel => exact ⟨G - 1, R + dt, rfl, by go_num, hgr2, HRd.out, by have := hG1; omega, hq, hown.drewN _, dO hgr _⟩
        case measure => have := HG0.out; simp [intOf]; omega
      have dA : decide ((4294967296 : Int) ≤ (G : Int)) = false := by simp; omega
      have hGl' : G < 4294967296 := by omega
      have hmb := qy hGl' l4
      have e3 : IntKind.u64.wrap ((G : Int) * (d2 : Int)) = (G : Int) * (d2 : Int) := IntWalk.u64_in _ (by rw [← Int.natCast_mul]; omega)
      have o2 := fx R u2 hR l2
      by_cases hC : R * 4294967296 + u2 < G * d2
      · have dC : decide ((R : Int) * 4294967296 + (u2 : Int) < (G : Int) * (d2 : Int)) = true := by rw [← Int.natCast_mul]; simp; omega
        have HG0 := hid (show 0 < G by rcases Nat.eq_zero_or_pos G with h | h; · subst h; omega
                                       exact h)
        have HLT := hid (HdecL.out G R HG.out hC)
        have HG00 := HG0.out
        have e1 : IntKind.u64.wrap ((G : Int) - 1) = ((G - 1 : Nat) : Int) := by
          have : (G : Int) - 1 = ((G - 1 : Nat) : Int) := by omega
          rw [this]; exact IntWalk.u64_in _ (by omega)
        have e2 : IntKind.u64.wrap ((R : Int) + (dt : Int)) = (R : Int) + (dt : Int) := IntWalk.u64_in _ (by omega)
        have hq : Hid (U < (G - 1 + 1) * D) := by show U < (G - 1 + 1) * D; rw [show G - 1 + 1 = G by omega]; exact HLT.out
        have hgr2 : Hid ((G - 1) * dt + (R + dt) = un * 4294967296 + u1) := by
          show (G - 1) * dt + (R + dt) = un * 4294967296 + u1
          rw [← HG.out]
          have : G * dt = (G - 1) * dt + dt := by conv => lhs; rw [show G = G - 1 + 1 by omega, Nat.add_mul, Nat.one_mul]
          omega
        have hG1 : G - 1 ≤ 4294967296 := by omega
        by_cases hB : 4294967296 ≤ R + dt
        · have dB : decide ((4294967296 : Int) ≤ (R : Int) + (dt : Int)) = true := by simp; omega
          have hex : Hid ((G - 1) * D ≤ U + D) := HexitL.out (G - 1) (R + dt) hgr2.out (by
            have h1 : (G - 1) * d2 ≤ 4294967296 * 4294967296 := Nat.mul_le_mul hG1 (by omega)
            have h2 : 4294967296 * 4294967296 ≤ (R + dt) * 4294967296 := Nat.mul_le_mul_right _ hB
            omega) hG1
          have HB := hid hB
          clear hA hGl hB hmb hC hGl'
          go_wp2
          go_quiet (fail)
          go_upto_region 7 with fail
          go_wp2
          go_meet
          case rel => exact ⟨G - 1, rfl, hG1, hq, hex, hown.drewN _, dO hgr _⟩
        have dB : decide ((4294967296 : Int) ≤ (R : Int) + (dt : Int)) = false := by simp; omega
        have HB := hid hB
        have hRd : R + dt < 4294967296 := by omega
        have HRd := hid hRd
        clear hA hGl hB hRd hmb hC hGl'
        go_wp2
        go_quiet (fail)
        go_upto_region 7 with fail
        go_wp2
        go_roundw
        case rel => exact ⟨G - 1, R + dt, rfl, by go_num, hgr2, HRd.out, by have := hG1; omega, hq, hown.drewN _, dO hgr _⟩
        case measure => have := HG0.out; simp [intOf]; omega
      have dC : decide ((R : Int) * 4294967296 + (u2 : Int) < (G : Int) * (d2 : Int)) = false := by rw [← Int.natCast_mul]; simp; omega
      have hex : Hid (G * D ≤ U + D) := HexitL.out G R HG.out (by omega) (by omega)
      have hG1 : G ≤ 4294967296 := by omega
      have HG1 := hid hG1
      clear hA hGl hC hmb hGl' hG1
      go_wp2
      go_quiet (fail)
      go_wp2
      go_meet
      case rel => exact ⟨G, rfl, HG1.out, HGu, hex, hown.drewN _, dO hgr _⟩
  case rest =>
    obtain ⟨G, rfl, hG, HGu, HGe, hownc, hgrc⟩ := hcut
    clear c0 c1 c2 k1 k2 q1 q2 o1
    have H2 := hid (mD hDpos HGu.out HGe.out)
    go_wp2
    go_loopw [9, 10, 11, 12, 13, 84] (fun c b _ _ _ i wr => ∃ (k c' b' : Nat) (o' : List Nat), k ≤ n ∧ i = .int .i64 k ∧ c = .int .u64 c' ∧ c' < 4294967296 ∧ b = .int .u32 b' ∧ b' ≤ 1 ∧ OwnL wr g N o' ∧ w.grownBy wr (some g) ∧ Hid (∀ j, (j < off ∨ off + k ≤ j) → o'.getD j 0 = o.getD j 0) ∧
      Hid (ac ((o'.drop off).take k) + G * ac (ds.take k) = ac ((o.drop off).take k) + 4294967296 ^ k * (b' + c'))) (fun _ _ _ _ _ i _ => n - (intOf i).toNat)
    case atStart => exact ⟨0, 0, 0, o, by omega, rfl, rfl, by omega, rfl, by omega, hownc, hgrc, fun j _ => rfl, by simp [Hid, ac]⟩
    case round =>
      obtain ⟨k, c', b', o', hk, rfl, rfl, hc', rfl, hb', hown', hgr, HO, HE⟩ := hrel
      have hol' := hown'.1
      by_cases hlt : k < n
      · as_aux_lemma =>
          have hlt' : k < ds.length := by have := Hdl.out; omega
          obtain ⟨f0, f1⟩ := x4.u32 hlt'
          rw [← iA hgr (hS _ x4.1).1 (hS _ x4.1).2] at f0
          have HT := hid (br ds k hlt')
          obtain ⟨v, hv⟩ : ∃ v, v = ds[k] := ⟨_, rfl⟩
          rw [← hv] at f0 f1 HT
          clear hv
          have hko : off + k < o'.length := by omega
          have c1 := hown'.cell hko
          have c2 := hown'.frozen (off + k)
          obtain ⟨u, hu⟩ : ∃ u, u = o'[off + k] := ⟨_, rfl⟩
          have hu' : u < 4294967296 := by rw [hu]; exact hown'.2.1 _ (List.getElem_mem hko)
          have HUo := hid (show o.getD (off + k) 0 = u by rw [← HO.out (off + k) (.inr (by omega)), hu]; simp [List.getD, hko])
          rw [← hu] at c1
          clear hu
          have HTk := hid (fun d => cu (o := o') (off := off) (k := k) (d := d) hko)
          obtain ⟨lo, hlo⟩ : ∃ t : Nat, t = (G * v + c') % 4294967296 := ⟨_, rfl⟩
          obtain ⟨hi, hhi⟩ : ∃ t : Nat, t = (G * v + c') / 4294967296 := ⟨_, rfl⟩
          have hmb : G * v ≤ 4294967296 * 4294967295 := Nat.mul_le_mul hG (by omega)
          have hlh : lo + 4294967296 * hi = G * v + c' := by omega
          have hlo' : lo < 4294967296 := by omega
          have hhi' : hi < 4294967296 := by omega
          have e1 : IntKind.u64.wrap ((G : Int) * (v : Int)) = (G : Int) * (v : Int) := IntWalk.u64_in _ (by rw [← Int.natCast_mul]; omega)
          have e2 : IntKind.u64.wrap ((G : Int) * (v : Int) + (c' : Int)) = (G : Int) * (v : Int) + (c' : Int) := IntWalk.u64_in _ (by rw [← Int.natCast_mul]; omega)
          have elo : ((G : Int) * (v : Int) + (c' : Int)) % 4294967296 = (lo : Int) := by rw [← Int.natCast_mul]; omega
          have ehi : ((G : Int) * (v : Int) + (c' : Int)) / 4294967296 = (hi : Int) := by rw [← Int.natCast_mul]; omega
          obtain ⟨d, hd⟩ : ∃ d : Nat, (d : Int) = ((u : Int) - (lo : Int) - (b' : Int)) % 4294967296 := ⟨(((u : Int) - (lo : Int) - (b' : Int)) % 4294967296).toNat, by omega⟩
          obtain ⟨e, he⟩ : ∃ e : Nat, (e : Int) = cD (u : Int) (lo : Int) (b' : Int) := ⟨(cD (u : Int) (lo : Int) (b' : Int)).toNat, by have := dp (u : Int) (lo : Int) (b' : Int); omega⟩
          have hde : d + lo + b' = u + 4294967296 * e := by unfold cD at he; split at he <;> omega
          have hd1' : d < 4294967296 := by omega
          have he1 : e ≤ 1 := by have := dp (u : Int) (lo : Int) (b' : Int); omega
          have HA := hid (fun W => iz (u : Int) (lo : Int) (b' : Int) W (by omega) (by omega) (by omega) (by omega) (by omega) (by omega))
          rw [← hd, ← he] at HA
          have HDE := hid hde
          have HLH := hid hlh
          clear hd he hde hlh hmb hlo hhi
          go_wp2_with fail
          refine Calls.mono (HA.out _) ?_
          rintro e' w3 ⟨rfl, rfl⟩
          clear HA e1 e2 elo
          go_wp2
          go_roundw
          case rel =>
            refine ⟨k + 1, hi, e, o'.set (off + k) d, by omega, by go_num, rfl, hhi', rfl, he1, hown'.set hko hd1', jv hgr _ _, fun j hj => ?_, ?_⟩
            · rw [← HO.out j (by omega)]
              simp [List.getD, show ¬ off + k = j by omega]
            show ac (((o'.set (off + k) d).drop off).take (k + 1)) + G * ac (ds.take (k + 1)) = ac ((o.drop off).take (k + 1)) + 4294967296 ^ (k + 1) * (e + hi)
            have h1 := HE.out
            rw [HTk.out, aD, bO (by omega), HT.out, cv (by have := Hol.out; omega), aD, bO (by have := Hol.out; omega), HUo.out, Nat.mul_add, Nat.pow_succ, Nat.mul_assoc, Nat.mul_left_comm G]
            have h2 : 4294967296 ^ k * d + 4294967296 ^ k * (G * v) + 4294967296 ^ k * (b' + c') = 4294967296 ^ k * u + 4294967296 ^ k * (4294967296 * (e + hi)) := by
              rw [← Nat.mul_add, ← Nat.mul_add, ← Nat.mul_add]
              congr 1
              have := HDE.out
              have := HLH.out
              omega
            omega
          case measure => simp [intOf]; omega
      have hkn : k = n := by omega
      have hko : off + n < o'.length := by omega
      have c1 := hown'.cell hko
      have c2 := hown'.frozen (off + n)
      obtain ⟨u, hu⟩ : ∃ u, u = o'[off + n] := ⟨_, rfl⟩
      have hu' : u < 4294967296 := by rw [hu]; exact hown'.2.1 _ (List.getElem_mem hko)
      have huo : o.getD (off + n) 0 = u := by rw [← HO.out (off + n) (.inr (by omega)), hu]; simp [List.getD, hko]
      rw [← hu] at c1
      clear hu
      obtain ⟨d, hd⟩ : ∃ d : Nat, (d : Int) = ((u : Int) - (c' : Int) - (b' : Int)) % 4294967296 := ⟨(((u : Int) - (c' : Int) - (b' : Int)) % 4294967296).toNat, by omega⟩
      obtain ⟨e, he⟩ : ∃ e : Nat, (e : Int) = cD (u : Int) (c' : Int) (b' : Int) := ⟨(cD (u : Int) (c' : Int) (b' : Int)).toNat, by have := dp (u : Int) (c' : Int) (b' : Int); omega⟩
      have hde : d + c' + b' = u + 4294967296 * e := by unfold cD at he; split at he <;> omega
      have hd1' : d < 4294967296 := by omega
      have he1 : e ≤ 1 := by have := dp (u : Int) (c' : Int) (b' : Int); omega
      have HA := hid (fun W => iz (u : Int) (c' : Int) (b' : Int) W (by omega) (by omega) (by omega) (by omega) (by omega) (by omega))
      rw [← hd, ← he] at HA
      have hds : ds.take k = ds := List.take_of_length_le (by have := Hdl.out; omega)
      have hfin : ac (((o'.set (off + n) d).drop off).take (n + 1)) + G * D = U + 4294967296 ^ (n + 1) * e := by
        have h1 := HE.out
        rw [hds, ← HD.out, hkn] at h1
        rw [cu hko, aD, bO (by omega), HUU.out, cv (by have := Hol.out; omega), aD, bO (by have := Hol.out; omega), huo, Nat.pow_succ, Nat.mul_assoc]
        have h2 : 4294967296 ^ n * d + 4294967296 ^ n * (b' + c') = 4294967296 ^ n * u + 4294967296 ^ n * (4294967296 * e) := by
          rw [← Nat.mul_add, ← Nat.mul_add]
          congr 1
          omega
        omega
      have hout : ∀ j, j < off ∨ off + n < j → (o'.set (off + n) d).getD j 0 = o.getD j 0 := fun j hj => by
        rw [← HO.out j (by omega)]
        simp [List.getD, show ¬ off + n = j by omega]
      have hPlt : ac (((o'.set (off + n) d).drop off).take (n + 1)) < 4294967296 ^ (n + 1) := by
        have hlen : (((o'.set (off + n) d).drop off).take (n + 1)).length = n + 1 := bO (by simp; omega)
        have := aP (xs := ((o'.set (off + n) d).drop off).take (n + 1)) (fun x hx => (hown'.set hko hd1').2.1 x (List.mem_of_mem_drop (List.mem_of_mem_take hx)))
        rwa [hlen] at this
      have HF := hid hfin
      have HOut := hid hout
      have HP := hid hPlt
      have hown2 := hown'.set hko hd1'
      have hgr2 := jv hgr (off + n) (.int .u32 d)
      obtain ⟨o2, ho2⟩ : ∃ o2, o2 = o'.set (off + n) d := ⟨_, rfl⟩
      have hl2' : o2.length = N := by rw [ho2]; simp [hol']
      have HL2 := hid hl2'
      clear hl2'
      rw [← ho2] at HF HOut HP hown2
      clear hd he hde hfin hout hPlt hds huo hkn ho2 hown'
      have hq32 : U / D < 4294967296 := Nat.div_lt_of_lt_mul (by rw [Nat.mul_comm]; exact HU'.out)
      by_cases hez : e = 0
      · as_aux_lemma =>
          subst hez
          have h0 := HF.out
          rw [Nat.mul_zero, Nat.add_zero] at h0
          have HQ := hid (lf hDpos H2.out h0)
          clear h0
          go_wp2_with fail
          refine Calls.mono (HA.out _) ?_
          rintro e' w3 ⟨rfl, rfl⟩
          clear HA
          go_wp2
          go_ret
          refine ⟨o2, ?_, hown2, HOut.out, HQ.out.2, hgr2⟩
          exact bI (by have := HQ.out.1; omega)
      as_aux_lemma =>
        have he1' : e = 1 := by omega
        subst he1'
        have h0 := HF.out
        rw [Nat.mul_one] at h0
        have HQ := hid (lg hDpos H2.out HP.out h0)
        clear h0
        go_wp2_with fail
        refine Calls.mono (HA.out _) ?_
        rintro e' w3 ⟨rfl, rfl⟩
        clear HA hez
        go_wp2
        clear c1 c2 HO HE hgr
        go_loopw [14, 15, 16, 132] (fun c _ _ i wr => ∃ (k c' : Nat) (o' : List Nat), k ≤ n ∧ i = .int .i64 k ∧ c = .int .u32 c' ∧ c' ≤ 1 ∧ OwnL wr g N o' ∧ w.grownBy wr (some g) ∧ Hid (∀ j, (j < off ∨ off + k ≤ j) → o'.getD j 0 = o2.getD j 0) ∧
          Hid (ac ((o'.drop off).take k) + 4294967296 ^ k * c' = ac ((o2.drop off).take k) + ac (ds.take k))) (fun _ _ _ i _ => n - (intOf i).toNat)
        case atStart => exact ⟨0, 0, o2, by omega, rfl, rfl, by omega, hown2, hgr2, fun j _ => rfl, by simp [Hid, ac]⟩
        case round =>
          clear hown2 hgr2
          obtain ⟨k, c', o3, hk, rfl, rfl, hc', hown3, hgr3, HO3, HE3⟩ := hrel
          have hol3 := hown3.1
          by_cases hlt : k < n
          · as_aux_lemma =>
              have hlt' : k < ds.length := by have := Hdl.out; omega
              obtain ⟨f0, f1⟩ := x4.u32 hlt'
              rw [← iA hgr3 (hS _ x4.1).1 (hS _ x4.1).2] at f0
              have HT := hid (br ds k hlt')
              obtain ⟨v, hv⟩ : ∃ v, v = ds[k] := ⟨_, rfl⟩
              rw [← hv] at f0 f1 HT
              clear hv
              have hko : off + k < o3.length := by omega
              have c1 := hown3.cell hko
              have c2 := hown3.frozen (off + k)
              obtain ⟨x, hx⟩ : ∃ x, x = o3[off + k] := ⟨_, rfl⟩
              have hx' : x < 4294967296 := by rw [hx]; exact hown3.2.1 _ (List.getElem_mem hko)
              have HXo := hid (show o2.getD (off + k) 0 = x by rw [← HO3.out (off + k) (.inr (by omega)), hx]; simp [List.getD, hko])
              rw [← hx] at c1
              clear hx
              have HTk := hid (fun d => cu (o := o3) (off := off) (k := k) (d := d) hko)
              obtain ⟨d, hd⟩ : ∃ d : Nat, (d : Int) = ((x : Int) + (v : Int) + (c' : Int)) % 4294967296 := ⟨((x + v + c') % 4294967296), by omega⟩
              obtain ⟨e, he⟩ : ∃ e : Nat, (e : Int) = ((x : Int) + (v : Int) + (c' : Int)) / 4294967296 := ⟨((x + v + c') / 4294967296), by omega⟩
              have hde : d + 4294967296 * e = x + v + c' := by omega
              have hd1' : d < 4294967296 := by omega
              have he1 : e ≤ 1 := by omega
              have HA := hid (fun W => Jx (x : Int) (v : Int) (c' : Int) W (by omega) (by omega) (by omega) (by omega) (by omega) (by omega))
              rw [← hd, ← he] at HA
              have HDE := hid hde
              clear hd he hde
              go_wp2_with fail
              refine Calls.mono (HA.out _) ?_
              rintro e' w3 ⟨rfl, rfl⟩
              clear HA
              go_wp2
              go_roundw
              case rel =>
                have hl2 : o2.length = o3.length := by
                  have := HP.out
                  exact HL2.out.trans hol3.symm
                refine ⟨k + 1, e, o3.set (off + k) d, by omega, by go_num, rfl, he1, hown3.set hko hd1', jv hgr3 _ _, fun j hj => ?_, ?_⟩
                · rw [← HO3.out j (by omega)]
                  simp [List.getD, show ¬ off + k = j by omega]
                show ac (((o3.set (off + k) d).drop off).take (k + 1)) + 4294967296 ^ (k + 1) * e = ac ((o2.drop off).take (k + 1)) + ac (ds.take (k + 1))
                have h1 := HE3.out
                rw [HTk.out, aD, bO (by omega), HT.out, cv (by omega), aD, bO (by omega), HXo.out, Nat.pow_succ, Nat.mul_assoc]
                have h2 : 4294967296 ^ k * d + 4294967296 ^ k * (4294967296 * e) = 4294967296 ^ k * x + 4294967296 ^ k * v + 4294967296 ^ k * c' := by
                  rw [← Nat.mul_add, HDE.out, Nat.mul_add, Nat.mul_add]
                omega
              case measure => simp [intOf]; omega
          as_aux_lemma =>
            have hkn : k = n := by omega
            have hl2 : o2.length = o3.length := HL2.out.trans hol3.symm
            have hko : off + n < o3.length := by omega
            have c1 := hown3.cell hko
            have c2 := hown3.frozen (off + n)
            obtain ⟨x, hx⟩ : ∃ x, x = o3[off + n] := ⟨_, rfl⟩
            have hx' : x < 4294967296 := by rw [hx]; exact hown3.2.1 _ (List.getElem_mem hko)
            have hxo : o2.getD (off + n) 0 = x := by rw [← HO3.out (off + n) (.inr (by omega)), hx]; simp [List.getD, hko]
            rw [← hx] at c1
            clear hx
            obtain ⟨d, hd⟩ : ∃ d : Nat, d = (x + c') % 4294967296 := ⟨_, rfl⟩
            obtain ⟨e, he⟩ : ∃ e : Nat, e = (x + c') / 4294967296 := ⟨_, rfl⟩
            have hde : d + 4294967296 * e = x + c' := by omega
            have hd1' : d < 4294967296 := by omega
            have hdi : ((x : Int) + (c' : Int)) % 4294967296 = (d : Int) := by omega
            have hds : ds.take k = ds := List.take_of_length_le (by have := Hdl.out; omega)
            have hDlt : D < 4294967296 ^ n := by
              have := aP hdlt.out
              rw [← HD.out, Hdl.out] at this
              exact this
            have hfin : ac (((o3.set (off + n) d).drop off).take (n + 1)) = U % D := by
              have h1 := HE3.out
              rw [hds, ← HD.out, hkn] at h1
              have h3 := HQ.out.2
              rw [cv (by omega), aD, bO (by omega), hxo] at h3
              have hlt3 : ac (((o3.set (off + n) d).drop off).take (n + 1)) < 4294967296 ^ (n + 1) := by
                have hlen : (((o3.set (off + n) d).drop off).take (n + 1)).length = n + 1 := bO (by simp; omega)
                have := aP (xs := ((o3.set (off + n) d).drop off).take (n + 1)) (fun y hy => (hown3.set hko hd1').2.1 y (List.mem_of_mem_drop (List.mem_of_mem_take hy)))
                rwa [hlen] at this
              rw [cu hko, aD, bO (by omega)] at hlt3 ⊢
              have h2 : 4294967296 ^ n * d + 4294967296 ^ n * (4294967296 * e) = 4294967296 ^ n * x + 4294967296 ^ n * c' := by
                rw [← Nat.mul_add, hde, Nat.mul_add]
              have h4 : U % D < 4294967296 ^ n := Nat.lt_trans (Nat.mod_lt _ hDpos) hDlt
              have h5 : 4294967296 ^ (n + 1) = 4294967296 ^ n * 4294967296 := by rw [Nat.pow_succ]
              have h6 : 4294967296 ^ n * (4294967296 * e) = 4294967296 ^ (n + 1) * e := by rw [h5, Nat.mul_assoc]
              have he01 : e = 0 ∨ e = 1 := by omega
              rcases he01 with h | h
              · subst h; omega
              subst h; omega
            have hout : ∀ j, j < off ∨ off + n < j → (o3.set (off + n) d).getD j 0 = o.getD j 0 := fun j hj => by
              rw [← HOut.out j hj, ← HO3.out j (by omega)]
              simp [List.getD, show ¬ off + n = j by omega]
            have HF3 := hid hfin
            have HOut3 := hid hout
            have e1 : IntKind.u64.wrap ((G : Int) - 1) = ((G - 1 : Nat) : Int) := by
              have h0 : 1 ≤ G := by rw [HQ.out.1]; exact Nat.le_add_left 1 _
              have : (G : Int) - 1 = ((G - 1 : Nat) : Int) := by omega
              rw [this]; exact IntWalk.u64_in _ (by omega)
            have hR : Hid (((G - 1 : Nat) : Int) = ((U / D : Nat) : Int)) := by
              show ((G - 1 : Nat) : Int) = ((U / D : Nat) : Int)
              have : G - 1 = U / D := by rw [HQ.out.1]; rfl
              rw [this]
            clear he hde hfin hout hds hxo hkn hDlt hd hl2
            go_wp2
            go_ret
            exact ⟨o3.set (off + n) d, bI hR.out, hown3.set hko hd1', HOut3.out, HF3.out, jv hgr3 _ _⟩
theorem oU {t:Nat} (h0:0<t) (h:t<4294967296):Lib.bitLen t=Nat.log2 t+1:=by
 have h1:2^Nat.log2 t<=t:=Nat.log2_self_le (by omega);have h2:t<2^(Nat.log2 t+1):=Nat.lt_log2_self;rw [Lib.bitLen_shift _ t h1 (by omega)];have:t/2^Nat.log2 t=1:=by
  apply Nat.div_eq_of_lt_le
  ·omega
  rw [Nat.pow_succ] at h2;omega
 rw [this];have:Lib.bitLen 1=1:=by decide+kernel
 omega
theorem lh {t s:Nat} (h0:0<t) (h:t<4294967296) (hs:s=32-Lib.bitLen t):s<32/\2147483648<=t*2^s/\(t+1)*2^s<=4294967296:=by
 rw [oU h0 h] at hs;have h1:2^Nat.log2 t<=t:=Nat.log2_self_le (by omega);have h2:t<2^(Nat.log2 t+1):=Nat.lt_log2_self;have h3:Nat.log2 t<32:=(Nat.log2_lt (by omega)).2 (by omega);generalize Nat.log2 t=L at *
 refine ⟨by omega,?_,?_⟩
 ·have:=Nat.mul_le_mul_right (2^s) h1;rw [←Nat.pow_add,show L+s=31 by omega] at this;simpa using this
 have:=Nat.mul_le_mul_right (2^s) (show t+1<=2^(L+1) from h2);rw [←Nat.pow_add,show L+1+s=32 by omega] at this;simpa using this
theorem jw {n:Nat} (h:n≠0):0<(ae n).getD ((ae n).length-1) 0:=by
 have hp:=cp (n:=n) (by omega);rcases Nat.eq_zero_or_pos ((ae n).getD ((ae n).length-1) 0) with h0|h0
 ·exfalso;have h1:=bT (ae n) ((ae n).length-1);rw [h0,Nat.mul_zero,show (ae n).length-1+1=(ae n).length by omega,List.take_of_length_le (Nat.le_refl _),am] at h1;simp only [Nat.add_zero] at h1;have h2:=aP (xs:=(ae n).take ((ae n).length-1)) (fun x hx=>bd n x (List.mem_of_mem_take hx));rw [List.length_take,Nat.min_eq_left (by omega),←h1] at h2;have:=bS h2;omega
 exact h0
theorem oV {y n t s:Nat} (hn:(ae y).length=n) (hn1:1<=n) (ht:t=(ae y).getD (n-1) 0) (hs:s=32-Lib.bitLen t):
  s<32/\y*2^s<4294967296^n/\4294967296^(n-1)*2147483648<=y*2^s:=by
 have hy0:y≠0:=fun h=>by subst h;rw [bm] at hn;simp at hn;omega
 have ht0:0<t:=by rw [ht,←hn];exact jw hy0
 have htW:t<4294967296:=by
  rw [ht];have hl:n-1<(ae y).length:=by omega
  simp only [List.getD,List.getElem?_eq_getElem hl,Option.getD_some];exact bd y _ (List.getElem_mem hl)
 obtain ⟨a,b,c⟩:=lh ht0 htW hs;have h1:=bT (ae y) (n-1);rw [show n-1+1=n by omega,List.take_of_length_le (by omega),am,←ht] at h1;have h2:=aP (xs:=(ae y).take (n-1)) (fun x hx=>bd y x (List.mem_of_mem_take hx));rw [List.length_take,Nat.min_eq_left (by omega)] at h2;have hP:4294967296^n=4294967296^(n-1)*4294967296:=by rw [←Nat.pow_succ];congr 1;omega
 rw [hP];clear hP;generalize 4294967296^(n-1)=P at *
 generalize ac ((ae y).take (n-1))=lo at *
 have hp:=Nat.pow_pos (n:=s) (show 0<2 by decide);generalize 2^s=q at *
 refine ⟨a,?_,?_⟩
 ·have e1:y<P*(t+1):=by rw [Nat.mul_add];omega
  calc y*q<P*(t+1)*q:=Nat.mul_lt_mul_of_pos_right e1 hp
   _=P*((t+1)*q):=Nat.mul_assoc _ _ _
   _<=P*4294967296:=Nat.mul_le_mul_left _ c
 calc P*2147483648<=P*(t*q):=Nat.mul_le_mul_left _ b
  _=P*t*q:=(Nat.mul_assoc _ _ _).symm
  _<=y*q:=Nat.mul_le_mul_right _ (by omega)
theorem rJ {n D:Nat} (hn1:1<=n) (h:4294967296^(n-1)*2147483648<=D) {ds:List Nat} (hd:ds.length=n) (hlt:∀x∈ds,x<4294967296) (hv:ac ds=D):2147483648<=ds.getD (n-1) 0:=by
 have h1:=bT ds (n-1);rw [show n-1+1=n by omega,List.take_of_length_le (by omega),hv] at h1;have h2:=aP (xs:=ds.take (n-1)) (fun x hx=>hlt x (List.mem_of_mem_take hx));rw [List.length_take,Nat.min_eq_left (by omega)] at h2;generalize 4294967296^(n-1)=P at *
 generalize ds.getD (n-1) 0=t at *
 generalize ac (ds.take (n-1))=lo at *
 rcases Nat.lt_or_ge t 2147483648 with h3|h3
 ·exfalso;have:=Nat.mul_le_mul_left P (show t+1<=2147483648 from h3);rw [Nat.mul_add] at this;omega
 exact h3
theorem mE {X x m n s D:Nat} {ou:List Nat} (hx:x<4294967296^m) (hX:X=x*2^s) (hs:s<32) (hn1:1<=n) (hnm:n<=m) (hD:4294967296^(n-1)*2147483648<=D) (hl:ou.length=m+1) (hlt:∀x∈ou,x<4294967296) (hv:ac ou=X):
  ac (ou.drop (m-n+1))<D:=by
 have h1:=cm ou (m-n+1) (by omega);have hp:=gC hs;have e:4294967296^m=4294967296^(m-n+1)*4294967296^(n-1):=by rw [←Nat.pow_add];congr 1;omega
 have hP:=jL (m-n+1);rw [e] at hx;rw [hv,hX] at h1;clear e;generalize 4294967296^(m-n+1)=P at *
 generalize 4294967296^(n-1)=R at *
 generalize ac (ou.drop (m-n+1))=d at *
 have h2:x*2^s<P*R*2^s:=Nat.mul_lt_mul_of_pos_right hx (Nat.pow_pos (by decide));have h3:P*R*2^s<=P*R*2147483648:=Nat.mul_le_mul_left _ hp;have h4:P*d<P*(R*2147483648):=by rw [←Nat.mul_assoc];omega
 exact Nat.lt_of_lt_of_le (Nat.lt_of_mul_lt_mul_left h4) hD
theorem drop_zero {o:List Nat} {n:Nat} (hn:n<=o.length) (h:ac o<4294967296^n):ac (o.drop n)=0/\ac (o.take n)=ac o:=by
 have h1:=cm o n hn;rcases Nat.eq_zero_or_pos (ac (o.drop n)) with h0|h0
 ·rw [h0,Nat.mul_zero] at h1;exact ⟨h0,by omega⟩
 have:=Nat.mul_le_mul_left (4294967296^n) h0;rw [Nat.mul_one] at this;omega
theorem gD {ou:List Nat} {n D N k:Nat} (hl:ou.length=N) (hk:k+1+n<=N) (hlt:∀x∈ou,x<4294967296) (hD:D<4294967296^n) (hi:ac (ou.drop (k+1))<D):
  ac ((ou.drop k).take (n+1))=ac (ou.drop k)/\ac (ou.drop (k+n+1))=0/\ac (ou.drop k)<4294967296*D:=by
 have e1:(ou.drop (k+1)).drop n=ou.drop (k+n+1):=by rw [List.drop_drop];congr 1;omega
 have h1:=drop_zero (o:=ou.drop (k+1)) (n:=n) (by simp;omega) (by omega);rw [e1] at h1;have e2:(ou.drop k).drop (n+1)=ou.drop (k+n+1):=by rw [List.drop_drop];rfl
 have h2:=cm (ou.drop k) (n+1) (by simp;omega);rw [e2,h1.1,Nat.mul_zero] at h2;refine ⟨by omega,h1.1,?_⟩;have hk':k<ou.length:=by omega
 have h3:ou.drop k=ou[k]::ou.drop (k+1):=List.drop_eq_getElem_cons hk';have h4:=hlt _ (List.getElem_mem hk');rw [h3];show ou[k]+4294967296*ac (ou.drop (k+1))<_;generalize ac (ou.drop (k+1))=d at *
 omega
theorem qA {o o':List Nat} {k:Nat} (hl:o.length=o'.length) (h:∀j,k<=j->o'.getD j 0=o.getD j 0):o'.drop k=o.drop k:=by
 apply List.ext_getElem?;intro i;simp only [List.getElem?_drop];have:=h (k+i) (by omega);simp only [List.getD] at this;rcases Nat.lt_or_ge (k+i) o.length with h1|h1
 ·rw [List.getElem?_eq_getElem h1,List.getElem?_eq_getElem (by omega:k+i<o'.length)] at this ⊢;simpa using this
 rw [List.getElem?_eq_none h1,List.getElem?_eq_none (by omega:o'.length<=k+i)]
theorem qC {o o':List Nat} {k:Nat} (hl:o.length=o'.length) (h:∀j,j<k->o'.getD j 0=o.getD j 0):o'.take k=o.take k:=by
 apply List.ext_getElem?;intro i;simp only [List.getElem?_take];split
 ·rename_i hi;have:=h i hi;simp only [List.getD] at this;rcases Nat.lt_or_ge i o.length with h1|h1
  ·rw [List.getElem?_eq_getElem h1,List.getElem?_eq_getElem (by omega:i<o'.length)] at this ⊢;simpa using this
  rw [List.getElem?_eq_none h1,List.getElem?_eq_none (by omega:o'.length<=i)]
 rfl
theorem mF {X D N Nq n k:Nat} {ou ou' oq:List Nat} (hl:ou.length=N) (hl':ou'.length=N) (hq:oq.length=Nq) (hkq:k<Nq) (hk:k+1+n<=N) (hlt:∀x∈ou,x<4294967296) (hD:D<4294967296^n) (hD0:0<D)
  (hi:ac (ou.drop (k+1))<D) (hX:X=ac (oq.drop (k+1))*4294967296^(k+1)*D+ac ou) (hout:∀j,j<k∨k+n<j->ou'.getD j 0=ou.getD j 0) (hw:ac ((ou'.drop k).take (n+1))=ac ((ou.drop k).take (n+1))%D):
  ac (ou'.drop k)<D/\X=ac ((oq.set k (ac ((ou.drop k).take (n+1))/D)).drop k)*4294967296^k*D+ac ou':=by
 obtain ⟨w1,w2,w3⟩:=gD hl hk hlt hD hi;rw [w1] at hw ⊢;have e1:ou'.drop (k+n+1)=ou.drop (k+n+1):=qA (by omega) fun j hj=>hout j (.inr (by omega))
 have e2:ou'.take k=ou.take k:=qC (by omega) fun j hj=>hout j (.inl hj)
 have e3:(ou'.drop k).drop (n+1)=ou'.drop (k+n+1):=by rw [List.drop_drop];rfl
 have h2:=cm (ou'.drop k) (n+1) (by simp;omega);rw [e3,e1,w2,Nat.mul_zero,hw] at h2;have hd':ac (ou'.drop k)=ac (ou.drop k)%D:=by omega
 have h3:=cm ou k (by omega);have h4:=cm ou' k (by omega);rw [e2,hd'] at h4;have h5:((oq.set k (ac (ou.drop k)/D)).drop k)=(ac (ou.drop k)/D)::oq.drop (k+1):=by
  rw [List.drop_eq_getElem_cons (by simp;omega)];congr 1
  ·simp
  rw [List.drop_set_of_lt (by omega)]
 rw [h5];have hmod:=Nat.mod_lt (ac (ou.drop k)) hD0;have hdm:=Nat.div_add_mod (ac (ou.drop k)) D;refine ⟨by omega,?_⟩;show X=(ac (ou.drop k)/D+4294967296*ac (oq.drop (k+1)))*_*D+_;rw [hX,h3,h4,Nat.pow_succ];generalize ac (ou.drop k)/D=q at *
 generalize ac (ou.drop k)%D=r at *
 rw [←hdm];generalize ac (ou.take k)=lo;generalize ac (oq.drop (k+1))=Q;generalize 4294967296^k=P;generalize 4294967296=W;simp only [Nat.add_mul,Nat.mul_add];simp only [Nat.mul_comm,Nat.mul_left_comm];omega
theorem rK {x y s Q R:Nat} (hy:0<y) (h:x*2^s=Q*4294967296^0*(y*2^s)+R) (hR:R<y*2^s):Q=x/y/\R/2^s=x%y:=by
 have hp:=Nat.pow_pos (n:=s) (show 0<2 by decide);rw [Nat.pow_zero,Nat.mul_one] at h;have h1:x*2^s/(y*2^s)=x/y:=Nat.mul_div_mul_right _ _ hp;have h2:x*2^s%(y*2^s)=x%y*2^s:=Nat.mul_mod_mul_right _ _ _;have h3:x*2^s/(y*2^s)=Q:=by
  apply Nat.div_eq_of_lt_le
  ·omega
  rw [Nat.add_mul];omega
 have h4:x*2^s%(y*2^s)=R:=by
  have:=Nat.div_add_mod (x*2^s) (y*2^s);rw [h3,Nat.mul_comm (y*2^s) Q] at this;omega
 refine ⟨by omega,?_⟩;rw [←h4,h2];exact Nat.mul_div_cancel _ hp
theorem OwnL.sliceS {w:World} {g n:Nat} {o:List Nat} (h:OwnL w g n o) (hn:n<=9223372036854775807) {S:Nat->Prop} (hS:S g):ax 1 bi w S [.slice (some ⟨g,0,none⟩) n n] o:=by
 obtain ⟨h1,h2,f,h3,h4⟩:=h;refine ⟨some ⟨g,0,none⟩,n,by rw [h1],by omega,by unfold maxLen;omega,by simp,.inr ⟨g,0,rfl,hS,fun j hj=>⟨[f j],rfl,?_,?_⟩⟩⟩
 ·intro c hc;obtain rfl:c=0:=by simp at hc;omega
  simpa using h3.cell (by omega)
 refine ⟨?_,h2 _ (List.getElem_mem hj)⟩;rw [h4 j];simp [List.getD,hj]
theorem OwnL.take {w:World} {g n k:Nat} {o:List Nat} (h:OwnL w g n o) (hk:k<=n) (hn:n<=9223372036854775807) {S:Nat->Prop} (hS:S g):ax 1 bi w S [.slice (some ⟨g,0,none⟩) k n] (o.take k):=by
 obtain ⟨h1,h2,f,h3,h4⟩:=h;have hl:(o.take k).length=k:=by simp;omega
 refine ⟨some ⟨g,0,none⟩,n,by rw [hl],by omega,by unfold maxLen;omega,by simp,.inr ⟨g,0,rfl,hS,fun j hj=>⟨[f j],rfl,?_,?_⟩⟩⟩
 ·intro c hc;obtain rfl:c=0:=by simp at hc;omega
  simpa using h3.cell (by omega)
 rw [List.getElem_take];refine ⟨?_,h2 _ (List.getElem_mem (by omega))⟩;rw [h4 j];simp [List.getD,show j<o.length by omega]
theorem OwnL.grown {w w':World} {g gu n:Nat} {o:List Nat} (h:OwnL w g n o) (hg:w.grownBy w' (some gu)) (hne:g≠gu):OwnL w' g n o:=by
 obtain ⟨h1,h2,f,h3,h4⟩:=h;have hlt:=h3.lt;refine ⟨h1,h2,f,?_,h4⟩;unfold Own at *
 rw [hg.block g hlt (fun e=>hne (Option.some.inj e))];exact h3
theorem OwnL.other {w:World} {g g' n:Nat} {o:List Nat} (h:OwnL w g n o) (hne:g'≠g) (p:Nat) (v:Value):OwnL (w.setCell ⟨g',p,none⟩ v) g n o:=⟨h.1,h.2.1,_,h.2.2.choose_spec.1.other hne p v,h.2.2.choose_spec.2⟩
theorem OwnL.alloc {w:World} {g n:Nat} {o:List Nat} (h:OwnL w g n o) (b:Obj):OwnL (w.alloc b) g n o:=⟨h.1,h.2.1,_,h.2.2.choose_spec.1.alloc b,h.2.2.choose_spec.2⟩
theorem oW {w w':World} {B g:Nat} (h:w.grownBy w' (some g)) (hg:B<=g) (hB:B<=w.heap.size):Below B w w':=
 ⟨h.os,h.tape,h.output,h.size,fun b hb=>h.block b (by omega) (fun e=>by have:=Option.some.inj e;omega)⟩
theorem oX (S : Nat → Prop) (u v : Value) (x y : Nat) (w : World) (hS : ∀ b, S b → b < w.heap.size) (hl : (ae x).length ≤ 999999999999) (hxy : y ≤ x) (hy2 : 2 ≤ (ae y).length) (hu : ax 1 bi w S [u] (ae x)) (hv : ax 1 bi w S [v] (ae y)) :
    Calls prog 155 #[u, v] w fun e w' => ∃ q r, e = .returned (.tuple #[q, r]) ∧ ax 1 bi w' (LT w'.heap.size) [q] (ae (x / y)) ∧ ax 1 bi w' (LT w'.heap.size) [r] (ae (x % y)) ∧ Below w.heap.size w w' := by
  have hc := eV S u v x y w hS hu hv
  have hcn : ¬ bj x y < 0 := by unfold bj; rw [if_neg (by omega)]; split <;> omega
  have HC := hid hc
  clear hc
  have hnm : (ae y).length ≤ (ae x).length := by
    apply bS
    have := aP (bd x)
    rw [am] at this
    omega
  have hu' := hid hu
  have hv' := hid hv
  have hUU := fun (w' : World) (hb : Below w.heap.size w w') => (aF aX) _ _ _ _ _ _ hu (fun b h => hb.block b (hS b h)) fun b h => Nat.lt_of_lt_of_le (hS b h) hb.size
  have hVV := fun (w' : World) (hb : Below w.heap.size w w') => (aF aX) _ _ _ _ _ _ hv (fun b h => hb.block b (hS b h)) fun b h => Nat.lt_of_lt_of_le (hS b h) hb.size
  have HU := hid hUU
  have HV := hid hVV
  clear hUU hVV
  have hxW : x < 4294967296 ^ (ae x).length := by
    have := aP (bd x)
    rwa [am] at this
  obtain ⟨xa, xc, rfl, x1, x2, x3, x4⟩ := aM hu
  obtain ⟨ya, yc, rfl, y1, y2, y3, y4⟩ := aM hv
  obtain ⟨n, hn⟩ : ∃ n, n = (ae y).length := ⟨_, rfl⟩
  obtain ⟨m, hm⟩ : ∃ m, m = (ae x).length := ⟨_, rfl⟩
  rw [← hm] at hxW hl hnm
  rw [← hn] at hnm hy2
  rcases y4 with y4 | ⟨vb, voff, rfl, y4⟩
  · rw [y4] at hn; simp at hn; omega
  have hn1 : n - 1 < (ae y).length := by omega
  have g0 := (y4.u32 hn1).1
  have hvS := hS vb y4.1
  have htW : (ae y)[n - 1] < 4294967296 := bd y _ (List.getElem_mem hn1)
  obtain ⟨t, ht⟩ : ∃ t, t = (ae y)[n - 1] := ⟨_, rfl⟩
  rw [← ht] at g0 htW
  have htD : t = (ae y).getD (n - 1) 0 := by rw [ht]; simp [List.getD, hn1]
  obtain ⟨s, hs⟩ : ∃ s, s = 32 - Lib.bitLen t := ⟨_, rfl⟩
  obtain ⟨hs32, hD1, hD2⟩ := oV hn.symm (by omega) htD hs
  have hy0 : 0 < y := by
    rcases Nat.eq_zero_or_pos y with h | h
    · rw [h, bm] at hn; simp at hn; omega
    exact h
  have hbl : Lib.bitLen t ≤ 32 := Lib.bitLen_le t 32 (by decide) htW
  have HLZ : Hid (∀ w : World, Calls prog 200 #[.int .u32 t] w fun e w' => e = .returned (.int .i64 (s : Int)) ∧ w' = w) := fun w => by
    have := Tryz.bits_LeadingZeros32 t w (by omega) (by omega)
    rw [show ((t : Nat) : Int).toNat = t by omega] at this
    rwa [show (32 - (Lib.bitLen t : Int)) = (s : Int) by omega] at this
  have hmk := fun (w : World) => cy (P := prog) underlying218 Tryz.infoU32 rfl w (m - n + 1) (by omega) (by omega)
  have hX1 : x * 2 ^ s < 4294967296 ^ (m + 1) := by
    have := gC hs32
    rw [Nat.pow_succ]
    calc x * 2 ^ s < 4294967296 ^ m * 2 ^ s := Nat.mul_lt_mul_of_pos_right hxW (Nat.pow_pos (by decide))
      _ ≤ _ := Nat.mul_le_mul_left _ (by omega)
  have HN := hid (show _ ∧ _ ∧ _ ∧ _ from ⟨hD1, hD2, hX1, hxW⟩)
  clear hD1 hD2 hX1 hxW htD hs hbl hu hv
  rw [← hn] at y1
  rw [← hm] at x1
  have HMN := hid (show _ ∧ _ from ⟨hm, hn⟩)
  obtain ⟨rr, hrr⟩ : ∃ r, r = m - n := ⟨_, rfl⟩
  obtain ⟨Q, hQ⟩ : ∃ r, r = m - n + 1 := ⟨_, rfl⟩
  obtain ⟨m1, hm1⟩ : ∃ r, r = m + 1 := ⟨_, rfl⟩
  simp only [← hQ] at hmk
  have hmn1 : ((m : Int) - (n : Int)) = (rr : Int) := by omega
  have hmn2 : ((rr : Int) + 1) = (Q : Int) := by omega
  have hmn3 : ((Q : Int) - 1) = (rr : Int) := by omega
  have hm1' : ((m : Int) + 1) = (m1 : Int) := by omega
  have hnn1 : ((n : Int) - 1) = ((n - 1 : Nat) : Int) := by omega
  rw [← hn] at HC hv' HV ⊢
  rw [← hm] at HC hu' HU ⊢
  have hm1b : m1 ≤ 1000000000000 := by omega
  have hQb : Q ≤ 1000000000000 := by omega
  have HM1 := hid hm1
  have HQ := hid hQ
  clear hm1 hQ hrr
  have hne1 : ¬ ((n : Int) = 1) := by omega
  clear ht hm hn y4 x4 hv' hu'
  go_enter func155, ntmps155
  go_wp2_with fail
  refine Calls.mono HC.out ?_
  rintro e w1 ⟨rfl, hb1⟩
  rw [← hb1.cell (p := ⟨vb, voff + (n - 1), none⟩) hvS] at g0
  go_wp2_with fail
  refine Calls.mono (HLZ.out _) ?_
  rintro e w2 ⟨rfl, rfl⟩
  go_wp2_with fail
  have hS1 := mB _ _ _ s n w2 (fun _ h => h) (by omega) hs32 (by rw [← HMN.out.2]; exact Nat.le_refl _) (by rw [am]; exact HN.out.1) (HV.out w2 hb1)
  rw [am] at hS1
  have HS1 := hid hS1
  clear hS1
  refine Calls.mono HS1.out ?_
  rintro e w3 ⟨gd, ds, rfl, hgd, hod, hdv, hb3⟩
  have HDV := hid hdv
  clear hdv
  have hb13 := hb1.step hb3
  go_wp2_with fail
  have hS2 := mB _ _ _ s m1 w3 (fun _ h => h) (by omega) hs32 (by rw [← HMN.out.1]; have := HM1.out; omega) (by rw [am, HM1.out]; exact HN.out.2.2.1) (HU.out w3 hb13)
  rw [am] at hS2
  have HS2 := hid hS2
  clear hS2
  refine Calls.mono HS2.out ?_
  rintro e w4 ⟨gu, ou, rfl, hgu, hou, huv, hb4⟩
  have HUV := hid huv
  clear huv
  have hgd3 := hod.lt
  have hod4 := hod.below hb4 hgd3
  have hgdu : gd ≠ gu := by omega
  have hgu4 := hou.lt
  have hb14 := hb13.step hb4
  clear HS1 HS2 HC
  go_wp2
  clear hmk
  have HQ' := hid (show Q + n = m1 by have := HQ.out; have := HM1.out; omega)
  have hrq : rr + 1 = Q := by omega
  have hD0 : 0 < y * 2 ^ s := Nat.mul_pos hy0 (Nat.pow_pos (by decide))
  have HD0 := hid hD0
  have hqu : w4.heap.size ≠ gu := by omega
  have hqd : w4.heap.size ≠ gd := by omega
  have hwq : w.heap.size ≤ w4.heap.size := hb14.size
  have hwu : w.heap.size ≤ gu := by have := hb13.size; omega
  clear hD0
  go_loopw [13] (fun i wr => ∃ (k : Nat) (ou oq : List Nat), k ≤ Q ∧ i = .int .i64 ((k : Int) - 1) ∧ Below w.heap.size w wr ∧ OwnL wr gd n ds ∧ OwnL wr gu m1 ou ∧ OwnL wr w4.heap.size Q oq ∧
      Hid (ac (ou.drop k) < y * 2 ^ s) ∧ Hid (x * 2 ^ s = ac (oq.drop k) * 4294967296 ^ k * (y * 2 ^ s) + ac ou)) (fun i _ => (intOf i + 1).toNat)
  case atStart =>
    refine ⟨Q, ou, _, Nat.le_refl _, by rw [hmn3], hb14.alloc hwq _, hod4.alloc _, hou.alloc _, OwnL.new _ _, ?_, ?_⟩
    · show ac (ou.drop Q) < _
      rw [HQ.out]
      exact mE HN.out.2.2.2 rfl hs32 (by omega) hnm HN.out.2.1 (by rw [hou.1]; exact HM1.out) hou.2.1 HUV.out
    show x * 2 ^ s = _
    rw [HUV.out, List.drop_of_length_le (by simp)]
    simp [ac]
  case round =>
    obtain ⟨k, o, oq, hk, rfl, hbw, hod', hou', hoq', HI, HX⟩ := hrel
    cases k with
    | zero =>
      have hx1 := HX.out
      have hx2 := HI.out
      rw [List.drop_zero] at hx1 hx2
      obtain ⟨hq1, hr1⟩ := rK hy0 hx1 hx2
      have htk := drop_zero (o := o) (n := n) (by rw [hou'.1]; omega) (Nat.lt_trans hx2 HN.out.1)
      have hT : Hid (∀ wr' : World, OwnL wr' w4.heap.size Q oq → Calls prog 198 #[.slice (some ⟨w4.heap.size, 0, none⟩) Q Q] wr' fun e w' => ∃ r, e = .returned r ∧ wr' = w' ∧ ax 1 bi wr' (LT wr'.heap.size) [r] (ae (x / y))) := fun wr' h => by
        have := ga _ _ _ _ (h.slice (by omega))
        rw [hq1] at this
        exact this
      have hU : Hid (∀ wr' : World, OwnL wr' gu m1 o → Calls prog 203 #[.slice (some ⟨gu, 0, none⟩) n m1, .int .u64 s] wr' fun e w' => ∃ r, e = .returned r ∧ ax 1 bi w' (LT w'.heap.size) [r] (ae (x % y)) ∧ Below wr'.heap.size wr' w') := fun wr' h => by
        have := oR (LT wr'.heap.size) _ (o.take n) s wr' (fun _ h => h) (by simp; omega) hs32 (h.take (by omega) (by omega) h.lt)
        rw [htk.2, hr1] at this
        exact this
      have hnm1 : n ≤ m1 := by omega
      clear hx1 hx2 hq1 hr1 htk
      go_wp2_with fail
      go_region_with (first
        | (go_at_call 198; refine Calls.mono (hT.out _ ?h1) ?_; exact hoq'; rintro e w5 ⟨q, rfl, rfl, hq⟩)
        | (go_at_call 203; refine Calls.mono (hU.out _ ?h2) ?_; exact hou'; rintro e w6 ⟨r, rfl, hr, hb6⟩))
      all_goals (try go_wp2)
      go_ret2
      exact ⟨_, _, rfl, (aF aX).below hq hb6 hb6.size, hr, Below.step (a := wr.drew) (Below.drew hbw) hb6⟩
    | succ k =>
      rw [show (((k + 1 : Nat) : Int) - 1) = (k : Int) by omega]
      have HST := hid (fun cap (hc : n + 1 ≤ cap) => uv (· = gd) _ ds o gu k m1 cap n wr (fun b hb => by subst hb; exact ⟨hod'.lt, hgdu⟩) (by omega) hy2 hod'.1 (by have := HQ'.out; omega) hc (hod'.sliceS (by omega) rfl) hou' (rJ (by omega) HN.out.2.1 hod'.1 hod'.2.1 HDV.out) (by
        rw [HDV.out]
        have := gD (k := k) hou'.1 (by have := HQ'.out; omega) hou'.2.1 HN.out.1 HI.out
        rw [this.1]; exact this.2.2))
      have hkQ : k < Q := by omega
      have hkm : k + n < m1 := by have := HQ'.out; omega
      go_wp2_with fail
      rw [show k + n + 1 - k = n + 1 by omega]
      refine Calls.mono (HST.out _ ?hcap) ?_
      case hcap => omega
      rintro e wn ⟨o', rfl, hon, hout, hwin, hgr⟩
      obtain ⟨hr1, hr2⟩ := mF hou'.1 hon.1 hoq'.1 hkQ (by have := HQ'.out; omega) hou'.2.1 HN.out.1 HD0.out HI.out HX.out hout (by rw [← HDV.out]; exact hwin)
      have hdn := hod'.grown hgr hgdu
      have hqn := hoq'.grown hgr hqu
      have hbn : Below w.heap.size wr wn := oW hgr hwu hbw.size
      have hko : k < oq.length := by rw [hoq'.1]; exact hkQ
      have c1 := hqn.cell hko
      have c2 := hqn.frozen k
      obtain ⟨d, hd⟩ : ∃ d, d = ac ((o.drop k).take (n + 1)) / ac ds := ⟨_, rfl⟩
      have hdW : d < 4294967296 := by
        rw [hd, HDV.out]
        have := gD (k := k) hou'.1 (by have := HQ'.out; omega) hou'.2.1 HN.out.1 HI.out
        rw [this.1]
        exact Nat.div_lt_of_lt_mul (by rw [Nat.mul_comm]; exact this.2.2)
      rw [← HDV.out, ← hd] at hr2
      rw [← hd]
      have HR1 := hid hr1
      have HR2 := hid hr2
      clear hr1 hr2 hout hwin hd HST
      go_wp2
      go_roundw
      case rel =>
        refine ⟨k, o', oq.set k d, by omega, rfl, (hbw.trans hbn).setCell hwq _, hdn.other hqd _ _, hon.other hqu _ _, hqn.set hko hdW, HR1.out, ?_⟩
        rw [HDV.out] at HR2
        exact HR2.out
      case measure => simp [intOf]
theorem oY {t s S0:Nat} (h0:0<t) (ht:t<4294967296) (hS:S0=32-Lib.bitLen t) (hs:s<=S0):t*2^s<4294967296/\(s<S0->t*2^s<2147483648)/\(s=S0->2147483648<=t*2^s):=by
 obtain ⟨a,b,c⟩:=lh h0 ht hS;have h1:t*2^S0<4294967296:=by
  rw [Nat.add_mul] at c;have:=Nat.pow_pos (n:=S0) (show 0<2 by decide);omega
 have h2:t*2^s<=t*2^S0:=Nat.mul_le_mul_left _ (Nat.pow_le_pow_right (by decide) hs);refine ⟨by omega,fun h=>?_,fun h=>by subst h;exact b⟩;have h3:t*2^(s+1)<=t*2^S0:=Nat.mul_le_mul_left _ (Nat.pow_le_pow_right (by decide) h);rw [Nat.pow_succ,←Nat.mul_assoc] at h3;omega
end Go.Proofs.YtcgpghifhehlhaaGreatDoor
