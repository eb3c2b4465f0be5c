/- GuaranteeLast: walked. -/
import Derived.Test.YtgmedcncbpdimaaDoorAw18M
set_option linter.unusedVariables false
set_option linter.unusedSimpArgs false
set_option linter.unusedSectionVars false
/- GuaranteeLast: walked. -/
namespace Go.Proofs.YtgmedcncbpdimaaDoor
open Go.RowKit
attribute [local go_sem ↓] Go.wp_at_zero Go.wp_at_succ

section
variable {P : Program} {ops : Array Oper} {Q : Exit → Act → World → Prop} {md : Region.Mode}
theorem wpAny_taken {i : Nat} {oi : Oper} {v : Value} {fuel : Nat} {listed : Array Bool} {a a' : Act} {w : World} (hs : Region.noSelect ops = true) (hf : Region.free md ops listed i = true)
    (hr : (Region.ready md ops listed).contains i = true) (hQ : ∀ c a w, Q (.panic c) (a.put oi.dst v) w → Q (.panic c) a w) (hi : ops[i]? = some oi) (hy : Yields P ops oi v a) (ha : a.put oi.dst v = a')
    (h : wpAny P md ops Q fuel (listed.setIfInBounds i true) a' w) : wpAny P md ops Q (fuel + 1) listed a w :=
  wpAny_take hi hs hf hr hQ hy (ha ▸ h)
theorem wpAny_skip {i j s : Nat} {oi oj : Oper} {fuel : Nat} {listed : Array Bool} {a a' : Act} {w : World} (hs : Region.noSelect ops = true) (hf : Region.free md ops listed i = true)
    (hr : (Region.ready md ops listed).contains i = true) (hQ : ∀ c a w, Q (.panic c) (a.put oi.dst undef) w → Q (.panic c) a w) (hi : ops[i]? = some oi) (hg : oi.guard = some (j, true)) (hj : ops[j]? = some oj) (hd : oj.dst = some s)
    (hv : a.tmps[s]? = some (.bool false)) (ha : a.put oi.dst undef = a')
    (h : wpAny P md ops Q fuel (listed.setIfInBounds i true) a' w) : wpAny P md ops Q (fuel + 1) listed a w :=
  wpAny_take hi hs hf hr hQ (Or.inr ⟨by simp [Region.wanted, hg, yielded, hj, hd, hv], rfl⟩) (ha ▸ h)
end

/-- A slice of valid rationals. -/
theorem RQ.open {w : World} {v : Value} {qs : List Rat} (h : RL w v (qs.map enc)) :
    ∃ a cap, v = .slice a qs.length cap ∧ qs.length ≤ 9223372036854775807 ∧ (qs = [] ∨ ∃ b off, a = some ⟨b, off, none⟩ ∧ b < w.heap.size ∧ ∀ j, j < qs.length → w.cell? ⟨b, off + j * 3, none⟩ = some (.bool (enc (qs.getD j 0)).neg) ∧ w.cell? ⟨b, off + j * 3 + 1, none⟩ = some (.string (enc (qs.getD j 0)).num) ∧ w.cell? ⟨b, off + j * 3 + 2, none⟩ = some (.string (enc (qs.getD j 0)).den)) := by
  obtain ⟨a, cap, hv, h1, h2⟩ := h.open
  rw [List.length_map] at hv h1
  refine ⟨a, cap, hv, h1, ?_⟩
  rcases h2 with h2 | ⟨b, off, h3, h4, h5⟩
  · exact .inl (by simpa using h2)
  · refine .inr ⟨b, off, h3, h4, fun j hj => ?_⟩
    obtain ⟨k1, k2, k3, _⟩ := h5 j (by simpa using hj)
    have e : (qs.map enc)[j]'(by simpa using hj) = enc (qs.getD j 0) := by simp [List.getD, hj]
    rw [e] at k1 k2 k3
    exact ⟨k1, k2, k3⟩

/-- Three cells that hold a rational. -/
def C3 (w : World) (b o : Nat) (r : GRat) : Prop := w.cell? ⟨b, o, none⟩ = some (.bool r.neg) ∧ w.cell? ⟨b, o + 1, none⟩ = some (.string r.num) ∧ w.cell? ⟨b, o + 2, none⟩ = some (.string r.den)
theorem C3.below {w w' : World} {B b o : Nat} {r : GRat} (h : C3 w b o r) (hb : Below B w w') (hB : b < B) : C3 w' b o r := by
  unfold C3 at *
  rw [hb.cell (p := ⟨b, o, none⟩) hB, hb.cell (p := ⟨b, o + 1, none⟩) hB, hb.cell (p := ⟨b, o + 2, none⟩) hB]; exact h
theorem qSgn_pos {q : Rat} (h : 0 < q) : qSgn q = 1 := by unfold qSgn qCmp; grind
theorem qSgn_le {q : Rat} (h : ¬ 0 < q) : qSgn q ≤ 0 := by unfold qSgn qCmp; grind
theorem gR_small {W : Rat} {ds : List Rat} (hW : qB 1 W) (hd : ∀ k, qB 1 (ds.getD k 0)) (hl : ds.length ≤ 10) (k : Nat) : sB 200 (enc ((gR W ds).getD k 0)) := by
  rcases Nat.lt_or_ge k ds.length with h | h
  · rw [gR_get _ _ _ h]
    exact (sB_enc ((gO_qB hW hd (by decide) (k + 1)).sub (gO_qB hW hd (by decide) k))).mono (by omega)
  · have e : (gR W ds).getD k 0 = 0 := by simp only [List.getD, List.getElem?_eq_none (show (gR W ds).length ≤ k by rw [gR_len]; exact h), Option.getD_none]
    rw [e]; exact (sB_enc qB_zero).mono (by decide)

noncomputable def amts (xs : List Nat) (n : Nat) : List Rat := (xs.take n).map qAmt
theorem amts_len (xs : List Nat) (n : Nat) : (amts xs n).length ≤ n := by unfold amts; simp; omega
theorem amts_nonneg (xs : List Nat) (n : Nat) : NonNeg (amts xs n) := by
  intro x hx; obtain ⟨y, _, rfl⟩ := List.mem_map.1 hx; exact amt_nonneg y
theorem amts_qB (xs : List Nat) (n : Nat) (k : Nat) : qB 1 ((amts xs n).getD k 0) := by
  rcases Nat.lt_or_ge k (amts xs n).length with h | h
  · simp only [List.getD, List.getElem?_eq_getElem h, Option.getD_some]
    obtain ⟨y, _, e⟩ := List.mem_map.1 (List.getElem_mem h)
    rw [← e]; exact amt_qB y
  · simp only [List.getD, List.getElem?_eq_none h, Option.getD_none]; exact qB_zero
theorem amts_sB (xs : List Nat) (n : Nat) : ∀ r ∈ (amts xs n).map enc, sB 1 r := by
  intro r hr; obtain ⟨q, hq, rfl⟩ := List.mem_map.1 hr; obtain ⟨y, _, rfl⟩ := List.mem_map.1 hq; exact sB_enc (amt_qB y)
theorem qL_enc (l : List Rat) : qL (l.map enc) = l := by unfold qL; rw [List.map_map]; conv => rhs; rw [← List.map_id l]
                                                         apply List.map_congr_left; intro q _; exact qOf_enc q
theorem Amounts_q (v : Value) (xs : List Nat) (n : Nat) (w : World) (hn : n ≤ 1000) (hv : rSlice 1 rU16 w (LT w.heap.size) [v] xs) :
    Calls Tryd.prog 11 #[v, .int .i64 n] w fun e w' => ∃ u, e = .returned u ∧ RL w' u ((amts xs n).map enc) ∧ Below w.heap.size w w' := by
  have := Amounts_any v xs n w hn hv
  rw [show (xs.take n).map (fun x => enc (qAmt x)) = (amts xs n).map enc by unfold amts; rw [List.map_map]; rfl] at this
  exact this
theorem Refunds_q (W : Rat) (v : Value) (ds : List Rat) (m : Nat) (w : World) (hm : m ≤ 1000) (hm0 : 0 < m) (hW : sB m (enc W)) (hl : ds.length ≤ 1000) (hs : ∀ r ∈ ds.map enc, sB m r) (hv : RL w v (ds.map enc)) :
    Calls Tryd.prog 12 #[vRat (enc W), v] w fun e w' => ∃ u, e = .returned u ∧ RL w' u ((gR W ds).map enc) ∧ Below w.heap.size w w' := by
  have := Refunds_any (enc W) v (ds.map enc) m w hm hm0 hW (by simpa using hl) hs hv
  rw [qOf_enc, qL_enc] at this
  exact this

set_option maxRecDepth 100000 in
set_option maxHeartbeats 2000000 in
theorem last_walk (v0 v1 : Value) (x : Nat) (xs : List Nat) (w : World) (h0 : rU16 w (LT w.heap.size) [v0] x) (hv : rSlice 1 rU16 w (LT w.heap.size) [v1] xs) :
    Calls Tryd.prog 3 #[v0, v1] w fun e w' => e = .returned (.bool true) ∧ Below w.heap.size w w' := by
  obtain ⟨h1, h2⟩ := h0
  simp only [List.cons.injEq, and_true] at h1
  subst h1
  have A1 := hid (fun w => Amount_any x w h2)
  have A2 := hid (fun (w' : World) (hb : Below w.heap.size w w') => Amounts_q v1 xs 8 w' (by decide) ((stays_rSlice stays_rU16).below hv hb hb.size))
  have R := hid (fun (v : Value) (w : World) (h : RL w v ((amts xs 8).map enc)) => Refunds_q (qAmt x) v (amts xs 8) 1 w (by decide) (by decide) (sB_enc (amt_qB x)) (Nat.le_trans (amts_len xs 8) (by decide)) (amts_sB xs 8) h)
  have HLaw := hid (fun i k => law_last (w := qAmt x) (l := amts xs 8) (amts_nonneg xs 8) (i := i) (k := k))
  have HSM := hid (gR_small (amt_qB x) (amts_qB xs 8) (Nat.le_trans (amts_len xs 8) (by decide)))
  have AW := hid awake18_any
  have hdl := amts_len xs 8
  have hrl := gR_len (qAmt x) (amts xs 8)
  generalize amts xs 8 = ds at *
  generalize gR (qAmt x) ds = rs at *
  obtain ⟨n, hn⟩ : ∃ n, n = ds.length := ⟨_, rfl⟩
  generalize enc (qAmt x) = q at *
  unfold vRat at A1 R
  have HRL := hid hrl
  have HDL := hid hn
  rw [← hn] at hdl
  clear hrl hn hv h2
  go_enter Tryd.func3, Tryd.ntmps3
  go_wp2_with fail
  refine Calls.mono (A1.out _) ?_
  rintro e w1 ⟨rfl, hb1⟩
  go_wp2_with fail
  refine Calls.mono (A2.out _ hb1) ?_
  rintro e w2 ⟨v, rfl, hd, hb2⟩
  have hd2 := hd.below ((Below.refl _ _).alloc (Nat.le_refl _) (.cells #[.bool q.neg, .string q.num, .string q.den] 25))
  have hb := hid ((hb1.step hb2).alloc (Below.size (hb1.step hb2)) (.cells #[.bool q.neg, .string q.num, .string q.den] 25))
  have HD2 := hid hd2
  clear hd hd2 hb1 hb2
  go_wp2_with fail
  refine Calls.mono (R.out _ _ HD2.out) ?_
  rintro e w3 ⟨u, rfl, hr, hb3⟩
  have hd3 := HD2.out.below hb3
  have hbw := hid (hb.out.step hb3)
  obtain ⟨da, dc, rfl, d1, d2⟩ := RQ.open hd3
  obtain ⟨ra, rc, rfl, r1, r2⟩ := RQ.open hr
  have HD := hid d2
  have HR := hid r2
  rw [HRL.out, ← HDL.out] at r1 ⊢
  rw [← HDL.out] at d1
  clear d2 r2 hr hd3 hb3 HD2 hb R A1 A2
  go_wp2
  go_loopw [8, 9, 24] (fun _ _ i wr => ∃ k : Nat, k ≤ n ∧ i = .int .i64 k ∧ Below w3.heap.size w3 wr) (fun _ _ i _ => n - (intOf i).toNat)
  case atStart => exact ⟨0, Nat.zero_le _, rfl, Below.refl _ _⟩
  case round =>
    obtain ⟨i, hi, rfl, hbo⟩ := hrel
    obtain ⟨wo, rfl⟩ : ∃ wo : World, wo = wr := ⟨_, rfl⟩
    by_cases hlt : i < n
    · have hne1 : ds ≠ [] := by intro h; have := HDL.out; rw [h] at this; simp at this; omega
      have hne2 : rs ≠ [] := by intro h; have := HDL.out; have h3 := HRL.out; rw [h] at h3; simp at h3; rw [← h3] at this; omega
      obtain ⟨db, doff, rfl, hdb, hdc⟩ := HD.out.resolve_left hne1
      obtain ⟨rb, roff, rfl, hrb, hrc⟩ := HR.out.resolve_left hne2
      rw [← HDL.out] at hdc
      rw [HRL.out, ← HDL.out] at hrc
      have HDC := hid hdc
      have HRC := hid hrc
      clear hdc hrc hne1 hne2
      go_wp2
      go_loopw [9] (fun j wr => ∃ k : Nat, i < k ∧ k ≤ n ∧ j = .int .i64 k ∧ Below w3.heap.size w3 wr) (fun j _ => n - (intOf j).toNat)
      case atStart => exact ⟨i + 1, Nat.lt_succ_self _, hlt, by go_num, hbo⟩
      case round =>
        obtain ⟨k, hik, hk, rfl, hbr⟩ := hrel
        by_cases hkl : k < n
        · have SG := hid (fun w => qSign_any (enc (rs.getD i 0)) w (Nat.le_trans (HSM.out i).1 (by decide)) (Nat.le_trans (HSM.out i).2 (by decide)))
          rw [qOf_enc] at SG
          have hb1 : (0 : Int) ≤ (k : Int) := by omega
          have hb2 : (k : Int) < (n : Int) := by omega
          have hb3 : (0 : Int) ≤ (i : Int) := by omega
          have hb4 : (i : Int) < (n : Int) := by omega
          by_cases hp : 0 < rs.getD i 0
          · have hL := HLaw.out i k hik (by have := HDL.out; omega) hp
            rw [qSgn_pos hp] at SG
            have K1 := HRC.out i hlt
            have K2 := HRC.out k hkl
            have K3 := HDC.out k hkl
            rw [← hL] at K3
            generalize enc (rs.getD k 0) = y at *
            generalize enc (rs.getD i 0) = z at *
            have HK := hid (fun (W : World) (hb : Below w3.heap.size w3 W) => (⟨C3.below K1 hb hrb, C3.below K2 hb hrb, C3.below K3 hb hdb⟩ : C3 W rb (roff + i * 3) z ∧ C3 W rb (roff + k * 3) y ∧ C3 W db (doff + k * 3) y))
            obtain ⟨⟨p0, p1, p2⟩, ⟨q0, q1, q2⟩, ⟨t0, t1, t2⟩⟩ := HK.out _ hbr
            unfold vRat at SG
            have HBR := hid hbr
            clear hL K1 K2 K3 hp hbr HDC HRC
            go_wp2_with fail
            go_region_held3 (fun w' => w'.cell? ⟨rb, roff + i * 3, none⟩ = some (.bool z.neg) ∧ w'.cell? ⟨rb, roff + i * 3 + 1, none⟩ = some (.string z.num) ∧ w'.cell? ⟨rb, roff + i * 3 + 2, none⟩ = some (.string z.den) ∧ w'.cell? ⟨rb, roff + k * 3, none⟩ = some (.bool y.neg) ∧ w'.cell? ⟨rb, roff + k * 3 + 1, none⟩ = some (.string y.num) ∧ w'.cell? ⟨rb, roff + k * 3 + 2, none⟩ = some (.string y.den) ∧ w'.cell? ⟨db, doff + k * 3, none⟩ = some (.bool y.neg) ∧ w'.cell? ⟨db, doff + k * 3 + 1, none⟩ = some (.string y.num) ∧ w'.cell? ⟨db, doff + k * 3 + 2, none⟩ = some (.string y.den)) (go_keep)
              (first
                | (go_at_call 13; refine Calls.mono (SG.out _) ?_; rintro e wn ⟨rfl, hbn⟩; have hbr2 := Below.step (Below.drew HBR.out) hbn; clear p0 p1 p2 q0 q1 q2 t0 t1 t2; obtain ⟨⟨p0, p1, p2⟩, ⟨q0, q1, q2⟩, ⟨t0, t1, t2⟩⟩ := HK.out _ hbr2))
            go_wp2
            go_roundw
            case rel => exact ⟨k + 1, by omega, by omega, by go_num, hbr2⟩
            case measure => simp [intOf]; omega
          · have hs := qSgn_le hp
            have K1 := HRC.out i hlt
            generalize enc (rs.getD i 0) = z at *
            generalize qSgn (rs.getD i 0) = sg at *
            have HK := hid (fun (W : World) (hb : Below w3.heap.size w3 W) => C3.below K1 hb hrb)
            obtain ⟨p0, p1, p2⟩ := HK.out _ hbr
            unfold vRat at SG
            have HBR := hid hbr
            have hs' : decide ((0 : Int) < sg) = false := by simp; omega
            clear K1 hp hbr HDC HRC
            go_wp2_with fail
            refine wp_region_any (by kernel_rfl) ?_
            change wpAny _ _ _ _ _ _ _ (World.drew _)
            refine wpAny_taken (i := 0) (oi := ?oi0) (v := ?v0) (a' := ?aa0) (by kernel_rfl) (by kernel_rfl) (by kernel_rfl) ?hq0 ?hi0 (Or.inl ⟨?hw0, ?hy0⟩) ?ha0 ?rest0
            case hi0 => (simp [go_sem]; rfl)
            case hw0 => rfl
            case hy0 => (intro w; first | (go_simp; done) | (go_simp; with_reducible rfl))
            case ha0 => (go_simp; rfl)
            case hq0 => exact fun _ _ _ h => h
            refine wpAny_taken (i := 1) (oi := ?oi1) (v := ?v1) (a' := ?aa1) (by kernel_rfl) (by kernel_rfl) (by kernel_rfl) ?hq1 ?hi1 (Or.inl ⟨?hw1, ?hy1⟩) ?ha1 ?rest1
            case hi1 => (simp [go_sem]; rfl)
            case hw1 => rfl
            case hy1 => (intro w; first | (go_simp; done) | (go_simp; with_reducible rfl))
            case ha1 => (go_simp; rfl)
            case hq1 => exact fun _ _ _ h => h
            refine wpAny_taken (i := 2) (oi := ?oi2) (v := ?v2) (a' := ?aa2) (by kernel_rfl) (by kernel_rfl) (by kernel_rfl) ?hq2 ?hi2 (Or.inl ⟨?hw2, ?hy2⟩) ?ha2 ?rest2
            case hi2 => (simp [go_sem]; rfl)
            case hw2 => rfl
            case hy2 => (intro w; first | (go_simp; done) | (go_simp; with_reducible rfl))
            case ha2 => (go_simp; rfl)
            case hq2 => exact fun _ _ _ h => h
            refine wpAny_ready (rs := [3]) (by kernel_rfl) (by simp) (AllReady.cons rfl (fun K hK => ?_) AllReady.nil)
            go_simp
            refine hK _ _ ?_
            clear hK K
            refine wpAny_ready (rs := [4]) (by kernel_rfl) (by simp) (AllReady.cons rfl (fun K hK => ?_) AllReady.nil)
            go_simp
            refine Calls.mono (SG.out _) ?_
            rintro e wn ⟨rfl, hbn⟩
            have hbr2 := Below.step (Below.drew HBR.out) hbn
            go_simp
            refine hK _ _ ?_
            clear hK K
            refine wpAny_taken (i := 5) (oi := ?oi5) (v := ?v5) (a' := ?aa5) (by kernel_rfl) (by kernel_rfl) (by kernel_rfl) ?hq5 ?hi5 (Or.inl ⟨?hw5, ?hy5⟩) ?ha5 ?rest5
            case hi5 => (simp [go_sem]; rfl)
            case hw5 => rfl
            case hy5 => (intro w; first | (go_simp; done) | (go_simp; with_reducible rfl))
            case ha5 => (go_simp; rfl)
            case hq5 => exact fun _ _ _ h => h
            refine wpAny_taken (i := 6) (oi := ?oi6) (v := ?v6) (a' := ?aa6) (by kernel_rfl) (by kernel_rfl) (by kernel_rfl) ?hq6 ?hi6 (Or.inl ⟨?hw6, ?hy6⟩) ?ha6 ?rest6
            case hi6 => (simp [go_sem]; rfl)
            case hw6 => rfl
            case hy6 => (intro w; first | (go_simp; done) | (go_simp; with_reducible rfl))
            case ha6 => (go_simp; rfl)
            case hq6 => exact fun _ _ _ h => h
            refine wpAny_skip (i := 7) (oi := ?oi7) (oj := ?oj7) (a' := ?aa7) (j := 6) (s := 41) (by kernel_rfl) (by kernel_rfl) (by kernel_rfl) ?hq7 ?hi7 ?hg7 ?hj7 ?hd7 ?hv7 ?ha7 ?rest7
            case hi7 => (simp [go_sem]; rfl)
            case hg7 => rfl
            case hj7 => (simp [go_sem]; rfl)
            case hd7 => rfl
            case hv7 => (simp [go_sem])
            case ha7 => (go_simp; rfl)
            case hq7 => exact fun _ _ _ h => h
            refine wpAny_skip (i := 8) (oi := ?oi8) (oj := ?oj8) (a' := ?aa8) (j := 6) (s := 41) (by kernel_rfl) (by kernel_rfl) (by kernel_rfl) ?hq8 ?hi8 ?hg8 ?hj8 ?hd8 ?hv8 ?ha8 ?rest8
            case hi8 => (simp [go_sem]; rfl)
            case hg8 => rfl
            case hj8 => (simp [go_sem]; rfl)
            case hd8 => rfl
            case hv8 => (simp [go_sem])
            case ha8 => (go_simp; rfl)
            case hq8 => exact fun _ _ _ h => h
            refine wpAny_skip (i := 9) (oi := ?oi9) (oj := ?oj9) (a' := ?aa9) (j := 6) (s := 41) (by kernel_rfl) (by kernel_rfl) (by kernel_rfl) ?hq9 ?hi9 ?hg9 ?hj9 ?hd9 ?hv9 ?ha9 ?rest9
            case hi9 => (simp [go_sem]; rfl)
            case hg9 => rfl
            case hj9 => (simp [go_sem]; rfl)
            case hd9 => rfl
            case hv9 => (simp [go_sem])
            case ha9 => (go_simp; rfl)
            case hq9 => exact fun _ _ _ h => h
            refine wpAny_skip (i := 10) (oi := ?oi10) (oj := ?oj10) (a' := ?aa10) (j := 6) (s := 41) (by kernel_rfl) (by kernel_rfl) (by kernel_rfl) ?hq10 ?hi10 ?hg10 ?hj10 ?hd10 ?hv10 ?ha10 ?rest10
            case hi10 => (simp [go_sem]; rfl)
            case hg10 => rfl
            case hj10 => (simp [go_sem]; rfl)
            case hd10 => rfl
            case hv10 => (simp [go_sem])
            case ha10 => (go_simp; rfl)
            case hq10 => exact fun _ _ _ h => h
            refine wpAny_skip (i := 11) (oi := ?oi11) (oj := ?oj11) (a' := ?aa11) (j := 6) (s := 41) (by kernel_rfl) (by kernel_rfl) (by kernel_rfl) ?hq11 ?hi11 ?hg11 ?hj11 ?hd11 ?hv11 ?ha11 ?rest11
            case hi11 => (simp [go_sem]; rfl)
            case hg11 => rfl
            case hj11 => (simp [go_sem]; rfl)
            case hd11 => rfl
            case hv11 => (simp [go_sem])
            case ha11 => (go_simp; rfl)
            case hq11 => exact fun _ _ _ h => h
            refine wpAny_skip (i := 12) (oi := ?oi12) (oj := ?oj12) (a' := ?aa12) (j := 6) (s := 41) (by kernel_rfl) (by kernel_rfl) (by kernel_rfl) ?hq12 ?hi12 ?hg12 ?hj12 ?hd12 ?hv12 ?ha12 ?rest12
            case hi12 => (simp [go_sem]; rfl)
            case hg12 => rfl
            case hj12 => (simp [go_sem]; rfl)
            case hd12 => rfl
            case hv12 => (simp [go_sem])
            case ha12 => (go_simp; rfl)
            case hq12 => exact fun _ _ _ h => h
            refine wpAny_skip (i := 13) (oi := ?oi13) (oj := ?oj13) (a' := ?aa13) (j := 6) (s := 41) (by kernel_rfl) (by kernel_rfl) (by kernel_rfl) ?hq13 ?hi13 ?hg13 ?hj13 ?hd13 ?hv13 ?ha13 ?rest13
            case hi13 => (simp [go_sem]; rfl)
            case hg13 => rfl
            case hj13 => (simp [go_sem]; rfl)
            case hd13 => rfl
            case hv13 => (simp [go_sem])
            case ha13 => (go_simp; rfl)
            case hq13 => exact fun _ _ _ h => h
            refine wpAny_skip (i := 14) (oi := ?oi14) (oj := ?oj14) (a' := ?aa14) (j := 6) (s := 41) (by kernel_rfl) (by kernel_rfl) (by kernel_rfl) ?hq14 ?hi14 ?hg14 ?hj14 ?hd14 ?hv14 ?ha14 ?rest14
            case hi14 => (simp [go_sem]; rfl)
            case hg14 => rfl
            case hj14 => (simp [go_sem]; rfl)
            case hd14 => rfl
            case hv14 => (simp [go_sem])
            case ha14 => (go_simp; rfl)
            case hq14 => exact fun _ _ _ h => h
            refine wpAny_skip (i := 15) (oi := ?oi15) (oj := ?oj15) (a' := ?aa15) (j := 6) (s := 41) (by kernel_rfl) (by kernel_rfl) (by kernel_rfl) ?hq15 ?hi15 ?hg15 ?hj15 ?hd15 ?hv15 ?ha15 ?rest15
            case hi15 => (simp [go_sem]; rfl)
            case hg15 => rfl
            case hj15 => (simp [go_sem]; rfl)
            case hd15 => rfl
            case hv15 => (simp [go_sem])
            case ha15 => (go_simp; rfl)
            case hq15 => exact fun _ _ _ h => h
            refine wpAny_taken (i := 16) (oi := ?oi16) (v := ?v16) (a' := ?aa16) (by kernel_rfl) (by kernel_rfl) (by kernel_rfl) ?hq16 ?hi16 (Or.inl ⟨?hw16, ?hy16⟩) ?ha16 ?rest16
            case hi16 => (simp [go_sem]; rfl)
            case hw16 => rfl
            case hy16 => (intro w; first | (go_simp; done) | (go_simp; with_reducible rfl))
            case ha16 => (go_simp; rfl)
            case hq16 => exact fun _ _ _ h => h
            refine wpAny_done (by kernel_rfl) ?_ _
            go_wp2
            go_roundw
            case rel => exact ⟨k + 1, by omega, by omega, by go_num, hbr2⟩
            case measure => simp [intOf]; omega
        · go_wp2
          go_roundw
          case rel => exact ⟨i + 1, hlt, by go_num, hbr⟩
          case measure => simp [intOf]; omega
    · go_wp2_with fail
      refine Calls.mono (AW.out _) ?_
      rintro e w4 ⟨rfl, hb4⟩
      go_wp2
      go_ret
      exact ⟨rfl, Below.step (Below.step hbw.out hbo) hb4⟩

end Go.Proofs.YtgmedcncbpdimaaDoor
