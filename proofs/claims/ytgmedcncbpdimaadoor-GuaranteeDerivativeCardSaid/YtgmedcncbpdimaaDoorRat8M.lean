/- insolvencyref1: reduced: walked. -/
import Derived.Test.YtgmedcncbpdimaaDoorRef12M
import Derived.Deep.DeepCutAuto
import Derived.Handy
set_option linter.unusedVariables false
set_option linter.unusedSimpArgs false
/- insolvencyref1: reduced: walked. -/
namespace Go.Proofs.YtgmedcncbpdimaaDoor
open Go.RowKit

/-- A block of three cells of the call's own. -/
def Blk3 (w : World) (b : Nat) (T : Nat) (x y z : Value) : Prop := w.heap[b]? = some (.cells #[x, y, z] T (0, 0))
theorem Blk3.new (w : World) (T : Nat) (x y z : Value) : Blk3 (w.alloc (.cells #[x, y, z] T)) w.heap.size T x y z := heap_alloc_new w _
theorem Blk3.below {w w' : World} {b T B : Nat} {x y z : Value} (h : Blk3 w b T x y z) (hb : Below B w w') (hB : b < B) : Blk3 w' b T x y z := by
  unfold Blk3 at *; rw [hb.block b hB]; exact h
theorem Blk3.lt {w : World} {b T : Nat} {x y z : Value} (h : Blk3 w b T x y z) : b < w.heap.size := (Array.getElem?_eq_some_iff.1 h).1
theorem Blk3.alloc {w : World} {b T : Nat} {x y z : Value} (h : Blk3 w b T x y z) (o : Obj) : Blk3 (w.alloc o) b T x y z := by
  unfold Blk3 at *; rw [Below.heap_alloc _ _ _ (Blk3.lt h)]; exact h
theorem Blk3.cells {w : World} {b T : Nat} {x y z : Value} (h : Blk3 w b T x y z) :
    w.cell? ⟨b, 0, none⟩ = some x ∧ w.cell? ⟨b, 1, none⟩ = some y ∧ w.cell? ⟨b, 2, none⟩ = some z ∧ (∀ j, w.frozen? ⟨b, j, none⟩ = false) := by
  unfold Blk3 at h
  simp [World.cell?, World.frozen?, h]

theorem Blk3.set0 {w : World} {b T : Nat} {x y z : Value} (h : Blk3 w b T x y z) (v : Value) : Blk3 (w.setCell ⟨b, 0, none⟩ v) b T v y z := by
  unfold Blk3 at *; rw [heap_setCell_same w b 0 _ T v h]; rfl
theorem Blk3.set1 {w : World} {b T : Nat} {x y z : Value} (h : Blk3 w b T x y z) (v : Value) : Blk3 (w.setCell ⟨b, 1, none⟩ v) b T x v z := by
  unfold Blk3 at *; rw [heap_setCell_same w b 1 _ T v h]; rfl
theorem Blk3.set2 {w : World} {b T : Nat} {x y z : Value} (h : Blk3 w b T x y z) (v : Value) : Blk3 (w.setCell ⟨b, 2, none⟩ v) b T x y v := by
  unfold Blk3 at *; rw [heap_setCell_same w b 2 _ T v h]; rfl
theorem Blk3.other {w : World} {b b' T : Nat} {x y z : Value} (h : Blk3 w b T x y z) (hne : b' ≠ b) (p : Nat) (v : Value) : Blk3 (w.setCell ⟨b', p, none⟩ v) b T x y z := by
  unfold Blk3 at *; rw [Below.heap_setCell _ _ _ _ (fun e => hne e.symm)]; exact h
/-- A struct of three cells that has been stored. -/
theorem Blk3.stored {X : World} {b T : Nat} {x y z : Value} (h : Blk3 X b T x y z) (x' y' z' : Value) :
    (X.setCell ⟨b, 0, none⟩ x').cell? ⟨b, 0, none⟩ = some x' ∧ ((X.setCell ⟨b, 0, none⟩ x').setCell ⟨b, 1, none⟩ y').cell? ⟨b, 1, none⟩ = some y' ∧
    (((X.setCell ⟨b, 0, none⟩ x').setCell ⟨b, 1, none⟩ y').setCell ⟨b, 2, none⟩ z').cell? ⟨b, 2, none⟩ = some z' ∧ Blk3 (((X.setCell ⟨b, 0, none⟩ x').setCell ⟨b, 1, none⟩ y').setCell ⟨b, 2, none⟩ z') b T x' y' z' :=
  ⟨(h.set0 x').cells.1, ((h.set0 x').set1 y').cells.2.1, (((h.set0 x').set1 y').set2 z').cells.2.2.1, ((h.set0 x').set1 y').set2 z'⟩

/-- At a return of a struct of three cells that lies in memory. -/
theorem ret_blk3 {P : Program} {fn : Func} {R : Ending → World → Prop} {a : Act} {W : World} {b T : Nat} {x y z : Value} (h : Blk3 W b T x y z)
    (hres : ∀ W', W'.cell? ⟨b, 0, none⟩ = some x → W'.cell? ⟨b, 1, none⟩ = some y → W'.cell? ⟨b, 2, none⟩ = some z → (results fn a.tmps).run P W' = .ok (.agg #[x, y, z]) W') (hd : a.defers = []) (hR : R (.returned (.agg #[x, y, z])) W) : bodyPost P fn R .ret a W :=
  bodyPost_ret (hres W h.cells.1 h.cells.2.1 h.cells.2.2.1) hd hR

theorem rreduced_zero (neg : Bool) (u v : Value) (w : World) (hu : RNat w u 0) :
    Calls Tryd.prog 68 #[.bool neg, u, v] w fun e w' => e = .returned (vRat (enc 0)) ∧ Below w.heap.size w w' := by
  obtain ⟨a, c, rfl⟩ := hu.zero
  rw [enc_zero]
  unfold vRat bEmpty
  clear hu
  go_enter Tryd.func68, Tryd.ntmps68
  go_wp2
  go_returns
  exact ⟨rfl, (Below.refl _ _).alloc (Nat.le_refl _) _⟩

set_option maxRecDepth 100000 in
set_option maxHeartbeats 1000000 in
theorem rreduced_pos (neg : Bool) (u v : Value) (n d k : Nat) (w : World) (hn : NB k n) (hd : NB k d) (hk : k ≤ 900000000000) (hn0 : 0 < n) (hd0 : 0 < d) (hu : RNat w u n) (hv : RNat w v d) :
    Calls Tryd.prog 68 #[.bool neg, u, v] w fun e w' => e = .returned (vRat (enc (mkRat (sg neg n) d))) ∧ Below w.heap.size w w' := by
  have HE := hid (enc_mkRat (neg := neg) (n := n) (d := d) (by omega) (by omega))
  rw [HE.out]
  unfold vRat
  simp only
  clear HE
  obtain ⟨g, hg⟩ : ∃ g, g = Nat.gcd n d := ⟨_, rfl⟩
  have hg0 : 0 < g := by rw [hg]; exact Nat.gcd_pos_of_pos_left _ hn0
  have hgn : g ≤ n := by rw [hg]; exact Nat.gcd_le_left _ hn0
  have hgd : g ≤ d := by rw [hg]; exact Nat.gcd_le_right _ hd0
  have hdg : 0 < d / g := Nat.div_pos hgd hg0
  rw [← hg]
  obtain ⟨ub, uoff, um, uc, ux, hu1, hu2, hu3, hu4, hu5⟩ := hu.kind hn0
  have hum : 0 < um := by omega
  have HU := hid hu
  have HV := hid hv
  subst hu1
  have HC := hid (fun (w' : World) (hb : Below w.heap.size w w') => cCommon hn hd hk (HU.out.below hb) (HV.out.below hb))
  simp only [← hg] at HC
  have HNg := hid (show NB k (n / g) ∧ NB k (d / g) from ⟨hn.le (Nat.div_le_self _ _), hd.le (Nat.div_le_self _ _)⟩)
  have HN := hid hn
  have HD := hid hd
  clear hn hd hn0 hd0 hgn hgd hu hv hu3 hu5 hg
  go_enter Tryd.func68, Tryd.ntmps68
  go_wp2_with fail
  refine Calls.mono (HC.out _ ((Below.refl _ _).alloc (Nat.le_refl _) _)) ?_
  rintro e w1 ⟨r, rfl, hr, hb1⟩
  have hB1 : Blk3 w1 w.heap.size 25 _ _ _ := (Blk3.new w _ _ _ _).below hb1 (by simp)
  have hs1 : w.heap.size + 1 ≤ w1.heap.size := by have := hb1.size; simpa using this
  have HB1 := hid hB1
  obtain ⟨rb, roff, rm, rc, rx, hr1, hr2, hr3, hr4, hr5⟩ := hr.kind hg0
  have HR := hid hr
  subst hr1
  clear hB1 hr HC
  have hbw1 : Below w.heap.size w w1 := ((Below.refl _ _).alloc (Nat.le_refl _) _).step hb1
  go_upto_region 4 with fail
  go_cut [24] (fun s24 wx => s24 = .bool (decide (1 < g)) ∧ w1 = wx)
  case first =>
    rcases hr5 with ⟨rfl, rfl⟩ | ⟨h1, h2⟩
    · go_wp2
      all_goals
        go_meet
        case rel => exact ⟨congrArg Value.bool (decide_eq_decide.2 (by omega)), rfl⟩
    · go_wp2
      go_meet
      case rel => exact ⟨congrArg Value.bool (by simp [h2]), rfl⟩
  case rest =>
  obtain ⟨rfl, rfl⟩ := hcut
  go_upto_if 24 with fail
  go_cut [1, 2, 25, 31] (fun s1 s2 _ _ wx => RNat wx s1 (n / g) ∧ RNat wx s2 (d / g) ∧ Below (w.heap.size + 1) w1 wx)
  case first =>
    by_cases hg1 : 1 < g
    · have HD1 := hid (cDivide HN.out hk hg0 (HU.out.below hbw1) HR.out)
      have HG1 := hid hg1
      clear hr5
      go_wp2_with fail
      refine Calls.mono HD1.out ?_
      rintro e w2 ⟨q1, r1, rfl, hq1, _, hb2⟩
      have HD2 := hid (cDivide HD.out hk hg0 (HV.out.below (hbw1.step hb2)) (HR.out.below hb2))
      clear HD1
      go_wp2_with fail
      refine Calls.mono HD2.out ?_
      rintro e w3 ⟨q2, r2, rfl, hq2, _, hb3⟩
      go_wp2
      go_meet
      case rel => exact ⟨hq1.below hb3, hq2, (hb2.step hb3).mono hs1⟩
    · obtain rfl : g = 1 := by omega
      go_wp2
      go_meet
      case rel => exact ⟨by rw [Nat.div_one]; exact HU.out.below hbw1, by rw [Nat.div_one]; exact HV.out.below hbw1, Below.refl _ _⟩
  case rest =>
    obtain ⟨hq1, hq2, hbc⟩ := hcut
    have HT := hid (cText HNg.out.1 (Nat.le_trans hk (by decide)) hq1)
    obtain ⟨db, doff, dm, dc, dx, hd1, hd2, hd3, hd4, hd5⟩ := hq2.kind hdg
    have hBc := HB1.out.below hbc (Nat.lt_succ_self _)
    have HDQ := hid hq2
    subst hd1
    clear hq1 hq2 hr5 hr3 HU HV HB1 HR
    go_wp2_with fail
    refine Calls.mono HT.out ?_
    rintro e w5 ⟨rfl, hb5⟩
    have hB5 := hid (hBc.below hb5 hBc.lt)
    obtain ⟨z0, z1, z2, z3⟩ := hB5.out.cells
    have hlt5 := hB5.out.lt
    rw [← hb5.cell (p := ⟨db, doff, none⟩) hd2] at hd3
    have hd25 : db < w5.heap.size := Nat.lt_of_lt_of_le hd2 hb5.size
    have hbw5 : Below w.heap.size w w5 := Below.step (hbw1.trans (hbc.mono (Nat.le_succ _))) hb5
    clear hd2
    have HT2 := hid (fun (w' : World) (hb : Below w5.heap.size w5 w') => cText HNg.out.2 (Nat.le_trans hk (by decide)) ((HDQ.out.below hb5).below hb))
    go_upto_region 8 with fail
    go_cut [49] (fun s49 wx => s49 = .bool (decide (1 < d / g)) ∧ (w5.alloc (.cells #[.bool neg, .string (natStr (n / g)), .string { data := #[] }] 25)) = wx)
    case first =>
      rcases hd5 with ⟨rfl, rfl⟩ | ⟨h1, h2⟩
      · go_wp2
        all_goals
          go_meet
          case rel => exact ⟨congrArg Value.bool (decide_eq_decide.2 (by omega)), rfl⟩
      · go_wp2
        go_meet
        case rel => exact ⟨congrArg Value.bool (by simp [h2]), rfl⟩
    case rest =>
    obtain ⟨rfl, rfl⟩ := hcut
    have hba : Below w5.heap.size w5 (w5.alloc (.cells #[.bool neg, .string (natStr (n / g)), .string { data := #[] }] 25)) := (Below.refl _ _).alloc (Nat.le_refl _) _
    clear hd5
    by_cases hg1 : 1 < d / g
    · have HIF := hid (show (if d / g = 1 then bEmpty else natStr (d / g)) = natStr (d / g) from if_neg (by omega))
      clear z0 z1 z2 z3
      go_wp2_with fail
      refine Calls.mono (HT2.out _ hba) ?_
      rintro e w6 ⟨rfl, hb6⟩
      have hB6 := (hB5.out.alloc (.cells #[.bool neg, .string (natStr (n / g)), .string { data := #[] }] 25)).below hb6 (by simp; omega)
      obtain ⟨z0, z1, z2, z3⟩ := hB6.cells
      have hA6 := (Blk3.new w5 25 (.bool neg) (.string (natStr (n / g))) (.string { data := #[] })).below hb6 (by simp)
      obtain ⟨y0, y1, y2, y3⟩ := hA6.cells
      have hl6 := hA6.lt
      have hne : w.heap.size ≠ w5.heap.size := by omega
      have HX := hid (show w.heap.size ≤ w5.heap.size ∧ Below w.heap.size w w6 from ⟨by omega, (hbw5.step hba).step hb6⟩)
      obtain ⟨s0, s1, s2, s3⟩ := (hB6.other (b' := w5.heap.size) hne.symm 2 (.string (natStr (d / g)))).stored (.bool neg) (.string (natStr (n / g))) (.string (natStr (d / g)))
      have S3 := hid s3
      clear hB6 hA6 hba hbw5 hb6 hB5 s0 s1 s2 s3
      go_wp2
      refine ret_blk3 S3.out (fun W' c0 c1 c2 => by simp [results, Tryd.results68, go_sem, c0, c1, c2]) rfl ?_
      refine ⟨?_, (((HX.out.2.setCell HX.out.1 _).setCell (Nat.le_refl _) _).setCell (Nat.le_refl _) _).setCell (Nat.le_refl _) _⟩
      first | rfl | (rw [HIF.out])
    · have HIF := hid (show (if d / g = 1 then bEmpty else natStr (d / g)) = bEmpty from if_pos (by omega))
      obtain ⟨_, _, _, s3⟩ := hB5.out.stored (.bool neg) (.string (natStr (n / g))) (.string { data := #[] })
      have S3 := hid (s3.alloc (.cells #[.bool neg, .string (natStr (n / g)), .string { data := #[] }] 25))
      have HX := hid (show w.heap.size ≤ w5.heap.size ∧ Below w.heap.size w w5 from ⟨by omega, hbw5⟩)
      clear s3 hbw5 hba
      go_wp2
      refine ret_blk3 S3.out (fun W' c0 c1 c2 => by simp [results, Tryd.results68, go_sem, c0, c1, c2]) rfl ?_
      refine ⟨?_, (((HX.out.2.setCell (Nat.le_refl _) _).setCell (Nat.le_refl _) _).setCell (Nat.le_refl _) _).alloc (by simpa using HX.out.1) _⟩
      first | rfl | (rw [HIF.out]; rfl)

theorem rreduced_any (neg : Bool) (u v : Value) (n d k : Nat) (w : World) (hn : NB k n) (hd : NB k d) (hk : k ≤ 900000000000) (hd0 : 0 < d) (hu : RNat w u n) (hv : RNat w v d) :
    Calls Tryd.prog 68 #[.bool neg, u, v] w fun e w' => e = .returned (vRat (enc (mkRat (sg neg n) d))) ∧ Below w.heap.size w w' := by
  rcases Nat.eq_zero_or_pos n with h | h
  · subst h
    rw [sg_zero, Rat.zero_mkRat]
    exact rreduced_zero neg u v w hu
  · exact rreduced_pos neg u v n d k w hn hd hk h hd0 hu hv

end Go.Proofs.YtgmedcncbpdimaaDoor
