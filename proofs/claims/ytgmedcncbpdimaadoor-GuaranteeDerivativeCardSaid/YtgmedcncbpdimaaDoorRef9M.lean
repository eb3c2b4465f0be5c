/- insolvencyref1: long: plain facts. -/
import Derived.Test.YtgmedcncbpdimaaDoorKnuthM
import Derived.Test.YtgmedcncbpdimaaDoorNat17M
import Derived.Test.YtgmedcncbpdimaaDoorNat14M
set_option linter.unusedVariables false
set_option linter.unusedSimpArgs false
section
/- insolvencyref1: long: plain facts. -/
namespace Go.Proofs.YtgmedcncbpdimaaDoor
open Go.RowKit

/-- The shift that is sought step by step. -/
theorem lead_search {t s S0 : Nat} (h0 : 0 < t) (ht : t < 4294967296) (hS : S0 = 32 - Lib.bitLen t) (hs : s ≤ S0) : t * 2 ^ s < 4294967296 ∧ (s < S0 → t * 2 ^ s < 2147483648) ∧ (s = S0 → 2147483648 ≤ t * 2 ^ s) := by
  obtain ⟨a, b, c⟩ := lead_shift h0 ht hS
  have h1 : t * 2 ^ S0 < 4294967296 := by
    rw [Nat.add_mul] at c
    have := Nat.pow_pos (n := S0) (show 0 < 2 by decide)
    omega
  have h2 : t * 2 ^ s ≤ t * 2 ^ S0 := Nat.mul_le_mul_left _ (Nat.pow_le_pow_right (by decide) hs)
  refine ⟨by omega, fun h => ?_, fun h => by subst h; exact b⟩
  have h3 : t * 2 ^ (s + 1) ≤ t * 2 ^ S0 := Nat.mul_le_mul_left _ (Nat.pow_le_pow_right (by decide) h)
  rw [Nat.pow_succ, ← Nat.mul_assoc] at h3
  omega

end Go.Proofs.YtgmedcncbpdimaaDoor
end
section
/- Knuth's step, its plain facts at a window of a row. -/
namespace Go.Proofs.YtgmedcncbpdimaaDoor
open Go.RowKit

theorem step_pre {ds o : List Nat} {off n N D U un u1 u2 dt d2 : Nat} (hn2 : 2 ≤ n) (hdl : ds.length = n) (ho : o.length = N) (hoff : off + n < N) (hdlt : ∀ x ∈ ds, x < 4294967296) (holt : ∀ x ∈ o, x < 4294967296)
    (hD : D = limbsVal ds) (hU : U = limbsVal ((o.drop off).take (n + 1))) (hUD : U < 4294967296 * D) (hun : un = o[off + n]'(by omega)) (hu1 : u1 = o[off + (n - 1)]'(by omega)) (hu2 : u2 = o[off + (n - 2)]'(by omega))
    (hdt : dt = ds[n - 1]'(by omega)) (hd2 : d2 = ds[n - 2]'(by omega)) (htop : 2147483648 ≤ dt) :
    ∃ G0 R0, (un * 4294967296 + u1) / dt = G0 ∧ (un * 4294967296 + u1) % dt = R0 ∧ G0 * dt + R0 = un * 4294967296 + u1 ∧ R0 < dt ∧ G0 ≤ 4294967297 ∧ U < (G0 + 1) * D ∧ 0 < D ∧
      (∀ G R, G * dt + R = un * 4294967296 + u1 → R * 4294967296 + u2 < G * d2 → U < G * D) ∧
      (∀ G R, G * dt + R = un * 4294967296 + u1 → G * d2 ≤ R * 4294967296 + u2 → G ≤ 4294967296 → G * D ≤ U + D) := by
  have hw0 : off + n < o.length := by omega
  have hw1 : off + (n - 1) < o.length := by omega
  have hw2 : off + (n - 2) < o.length := by omega
  have hd1 : n - 1 < ds.length := by omega
  have hd2l : n - 2 < ds.length := by omega
  have l1 : u1 < 4294967296 := by rw [hu1]; exact holt _ (List.getElem_mem hw1)
  have l2 : u2 < 4294967296 := by rw [hu2]; exact holt _ (List.getElem_mem hw2)
  have l4 : d2 < 4294967296 := by rw [hd2]; exact hdlt _ (List.getElem_mem hd2l)
  have hGR : (un * 4294967296 + u1) / dt * dt + (un * 4294967296 + u1) % dt = un * 4294967296 + u1 := by rw [Nat.mul_comm]; exact Nat.div_add_mod _ _
  have hR0l : (un * 4294967296 + u1) % dt < dt := Nat.mod_lt _ (by omega)
  have hM : ∃ M D0 U0, 0 < M ∧ D0 < M ∧ U0 < M ∧ D = (dt * 4294967296 + d2) * M + D0 ∧ U = ((un * 4294967296 + u1) * 4294967296 + u2) * M + U0 := by
    obtain ⟨D0, h1, h2⟩ := split_top2 hdlt (n - 2) (by omega)
    obtain ⟨U0, h3, h4⟩ := split_top3 (xs := (o.drop off).take (n + 1)) (fun x hx => holt x (List.mem_of_mem_drop (List.mem_of_mem_take hx))) (n - 2) (by simp; omega)
    refine ⟨4294967296 ^ (n - 2), D0, U0, ww_pos _, h1, h3, ?_, ?_⟩
    · rw [hD, h2, show n - 2 + 1 = n - 1 by omega]
      simp [List.getD, hd1, hd2l, ← hdt, ← hd2]
    · rw [hU, h4, show n - 2 + 1 = n - 1 by omega, show n - 2 + 2 = n by omega]
      have g0 : ((o.drop off).take (n + 1)).getD n 0 = un := by simp [List.getD, List.getElem?_take, hw0, ← hun]
      have g1 : ((o.drop off).take (n + 1)).getD (n - 1) 0 = u1 := by simp [List.getD, List.getElem?_take, hw1, ← hu1, show n - 1 < n + 1 by omega]
      have g2 : ((o.drop off).take (n + 1)).getD (n - 2) 0 = u2 := by simp [List.getD, List.getElem?_take, hw2, ← hu2, show n - 2 < n + 1 by omega]
      rw [g0, g1, g2]
  obtain ⟨M, D0, U0, hM0, hD0, hU0, hDe, hUe⟩ := hM
  have hun_le : un ≤ dt := knuth_un hDe hUe hD0 l4 hUD
  have hG0l := knuth_g0 htop hun_le l1 hGR
  have hGU := knuth_first hDe hUe hU0 l2 hGR hR0l
  have hDpos : 0 < D := by
    rw [hDe]
    have : 1 * M ≤ (dt * 4294967296 + d2) * M := Nat.mul_le_mul_right _ (by omega)
    omega
  exact ⟨_, _, rfl, rfl, hGR, hR0l, hG0l, hGU, hDpos, fun G R h hg => knuth_dec (G := G) (R := R) hDe hUe hU0 h hg, fun G R h hg hG => knuth_exit (G := G) (R := R) hDe hUe hD0 hU0 (by omega) h hg hG⟩

end Go.Proofs.YtgmedcncbpdimaaDoor
end
