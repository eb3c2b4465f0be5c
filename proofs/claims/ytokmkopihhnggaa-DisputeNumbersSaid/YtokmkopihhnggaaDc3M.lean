/- Arguments of the laws about disputes, opened; few; awake; DisputeCheck's own function. -/
import Derived.Test.YtokmkopihhnggaaPl2M
import Derived.Test.YtokmkopihhnggaaBl6M
import Derived.Test.YtokmkopihhnggaaGu3M
import Derived.Test.YtokmkopihhnggaaCountM
import Derived.Test.YtokmkopihhnggaaChoM
import Derived.Test.YtokmkopihhnggaaAr1M
set_option linter.unusedVariables false
set_option linter.unusedSimpArgs false
set_option linter.defProp false
set_option linter.unnecessarySimpa false
section
/- Arguments of the laws about disputes, opened; few; awake; DisputeCheck's own function. -/
namespace Go.Proofs.Ytokmkopihhnggaa
open Go Go.RowKit Go.ChangeShapes Go.WideShapes Go.ChangeAt
theorem awake22_A : ACall Try.prog 11 [] (one (.bool true)) :=
  acall_flat (fnOK_of Try.func11 (by decide) rfl) [] (.bool true) awake_any
end Go.Proofs.Ytokmkopihhnggaa
end
section
/- DisputeNumbers: the law's own function; walked by the abstract machine. -/
namespace Go.Proofs.Ytokmkopihhnggaa
open Go Go.RowKit Go.ChangeShapes Go.WideShapes Go.ChangeAt
theorem okDs_ok {l : List GDisp} (hl : l.length ≤ 6) (h : ∀ d ∈ l, okD d) : dispsOK l ∧ few6 l := by
  refine ⟨⟨by omega, fun d hd => ⟨by have := (h d hd).2.1; omega, fun x hx => ?_⟩⟩, hl, fun d hd => ⟨(h d hd).1, (h d hd).2.1⟩⟩
  obtain ⟨⟨q, h1, h2, _⟩, _⟩ := (h d hd).2.2 x hx
  rw [h1]
  exact ⟨Nat.le_trans (sB_enc h2).1 (by decide), Nat.le_trans (sB_enc h2).2 (by decide)⟩
def F_lDN := And.intro zS (And.intro tf62 (And.intro tf51 (And.intro tf52 (tf84))))
set_option maxRecDepth 100000 in
set_option maxHeartbeats 4000000 in
theorem lDN_A (n : Nat) (cash : List Nat) (list ds : List N4) (at9 bits : Nat) (hn : n < 256) (hcs : okSl (· < 65536) cash) (hls : okSl okN4 list) (hds : okSl okN4 ds) (hat9 : at9 < 65536) (hbits : bits < 65536) : ACall Try.prog 3 [.one (.lit (.int .u8 n)), .one (.sh 1 cash.length (flat cU16 cash)), .one (.sh 4 list.length (flat cN4 list)), .one (.sh 4 ds.length (flat cN4 ds)), .one (.lit (.int .u16 at9)), .one (.lit (.int .u16 bits))] (one (.bool true)) := by
 have hc1 : cash.length ≤ 9223372036854775807 := Nat.le_trans hcs.1 (by decide)
 have hl1 : list.length ≤ 9223372036854775807 := Nat.le_trans hls.1 (by decide)
 have hd1 : ds.length ≤ 9223372036854775807 := Nat.le_trans hds.1 (by decide)
 refine acall_of Try.func3 rfl (by decide) (N := 87) rfl (by simp) (R := [.tmp 12]) rfl fun en k0 => ?_
 refine awR [] [none] ?_
 simp only [(id F_lDN), seval, cGrp]
 repeat refine ob ?_
 have hG := group_nil n cash list hn hcs.2 hls.2 hc1 hl1
 have hel := grpE_len n cash list []
 have heb := grpE_okB n cash list []
 refine awR [] [none, none, none, none, none, none] ?_
 simp only [(id F_lDN), seval, cGrp, flat_pure cU16_pure, flat_pure cN4_pure]
 repeat refine ob ?_
 refine ⟨_, hG, (by first | rfl | simp [allA, pure1, pureCs, pureC, A1.cells, cGrp, flat_pure cEst_pure, flat_pure cDebt_pure, flat_pure cDisp_pure, flat_pure cN_pure]), ?_⟩
 try unfold Later
 try simp only [(id F_lDN), seval, cGrp, flat_pure cU16_pure, flat_pure cN4_pure]
 repeat refine ob ?_
 have hgn : (grpN n cash list [] []).ests.length ≤ 1000000 := by have : (grpN n cash list [] []).ests.length = 1 + n % 4 := hel; omega
 have hgc : ∀ e ∈ (grpN n cash list [] []).ests, e.claims.length ≤ 1000000 := fun e he => by have := (heb e he).1; omega
 generalize grpN n cash list [] [] = g at *
 refine awR [31] [none, none, none, none] ?_
 simp only [(id F_lDN), seval, cGrp, flat_pure cEst_pure, flat_pure cDebt_pure, flat_pure cDisp_pure, flat_pure cN_pure]
 repeat refine ob ?_
 refine ⟨_, disputesP_I g ds 6 _ _ hgn hgc hd1 hds.2 (by decide) (fun y B hB => ?_), ?_⟩
 ·
  simp only [up_apply] at hB
  repeat (split at hB; · omega)
  cases hB
 rintro res H' nxW ⟨l0, all, s, hln, hperm, hokd, rfl, rfl⟩
 simp only [(id F_lDN), seval]
 repeat refine ob ?_
 refine awp_pub (t := 14) (by rfl) (by rfl) (by decide) (by rfl) ?_
 simp only [(id F_lDN), seval]
 obtain ⟨hok, hf6⟩ := okDs_ok (l := l0) (by omega) hokd
 have hC := dCount_A l0 hok
 obtain ⟨hcn, hp7, hp1⟩ := fewD_cn hf6
 rw [hcn] at hC
 have hP := pick_A at9 (prD l0) (by omega) (by omega)
 obtain ⟨k, hk⟩ : ∃ k, k = pkN at9 (prD l0) := ⟨_, rfl⟩
 rw [← hk] at hP
 have hkl : k < prD l0 := by rw [hk]; unfold pkN; rw [if_neg (by omega)]; exact Nat.mod_lt _ (by omega)
 have w1 : IntKind.i64.wrap ((at9 : Nat) : Int) = ((at9 : Nat) : Int) := wri at9 (by omega)
 have hCh := dChoice_A l0 k hf6 hok hkl
 have hIx := dIndex_A l0 (dgt l0 k) hf6 hok (dgt_ok l0 k fun d hd => (hf6.2 d hd).1)
 rw [ix_dgt l0 k hkl] at hIx
 have hl06 := hf6.1
 have hCo := choose_A l0 bits hbits ⟨by omega, fun d hd => by have := (hf6.2 d hd).2; omega⟩
 have hoc := chL_ok bits l0 0 fun d hd => (hf6.2 d hd).1
 have hIx2 := dIndex_A l0 (chL bits l0 0) hf6 hok hoc
 have hCh2 := dChoice_A l0 (ixD l0 (chL bits l0 0)) hf6 hok (ixD_lt hoc)
 rw [dgt_ix hoc] at hCh2
 have hcl9 := chL_len bits l0 0
 have hSI := SameInts_yes ((chL bits l0 0).map fun n : Nat => (n : Int)) (by rw [List.length_map]; omega)
 rw [← cN_cI, List.length_map] at hSI
 refine awR [] [none, none, none, none, none, none] ?_
 simp only [(id F_lDN), seval, cGrp, flat_pure cEst_pure, flat_pure cDebt_pure, flat_pure cDisp_pure, flat_pure cN_pure, w1]
 repeat refine ob ?_
 refine ⟨_, hC, (by first | rfl | simp [allA, pure1, pureCs, pureC, A1.cells, cGrp, flat_pure cEst_pure, flat_pure cDebt_pure, flat_pure cDisp_pure, flat_pure cN_pure]), ?_⟩
 try unfold Later
 try simp only [(id F_lDN), seval, cGrp, flat_pure cEst_pure, flat_pure cDebt_pure, flat_pure cDisp_pure, flat_pure cN_pure, w1]
 repeat refine ob ?_
 refine ⟨_, hP, (by first | rfl | simp [allA, pure1, pureCs, pureC, A1.cells, cGrp, flat_pure cEst_pure, flat_pure cDebt_pure, flat_pure cDisp_pure, flat_pure cN_pure]), ?_⟩
 try unfold Later
 try simp only [(id F_lDN), seval, cGrp, flat_pure cEst_pure, flat_pure cDebt_pure, flat_pure cDisp_pure, flat_pure cN_pure, w1]
 repeat refine ob ?_
 refine awR [] [none, none, none, none, none, none, none, none] ?_
 simp only [(id F_lDN), seval, cGrp, flat_pure cEst_pure, flat_pure cDebt_pure, flat_pure cDisp_pure, flat_pure cN_pure]
 repeat refine ob ?_
 refine ⟨_, hCh, (by first | rfl | simp [allA, pure1, pureCs, pureC, A1.cells, cGrp, flat_pure cEst_pure, flat_pure cDebt_pure, flat_pure cDisp_pure, flat_pure cN_pure]), ?_⟩
 try unfold Later
 try simp only [(id F_lDN), seval, cGrp, flat_pure cEst_pure, flat_pure cDebt_pure, flat_pure cDisp_pure, flat_pure cN_pure]
 repeat refine ob ?_
 refine awR [] [none, none, none, none, none, none, none, none] ?_
 simp only [(id F_lDN), seval, cGrp, flat_pure cEst_pure, flat_pure cDebt_pure, flat_pure cDisp_pure, flat_pure cN_pure]
 repeat refine ob ?_
 refine ⟨_, hIx, (by first | rfl | simp [allA, pure1, pureCs, pureC, A1.cells, cGrp, flat_pure cEst_pure, flat_pure cDebt_pure, flat_pure cDisp_pure, flat_pure cN_pure]), ?_⟩
 try unfold Later
 try simp only [(id F_lDN), seval, cGrp, flat_pure cEst_pure, flat_pure cDebt_pure, flat_pure cDisp_pure, flat_pure cN_pure]
 repeat refine ob ?_
 refine awR [] [none, none, none, none] ?_
 simp only [(id F_lDN), seval, cGrp, flat_pure cEst_pure, flat_pure cDebt_pure, flat_pure cDisp_pure, flat_pure cN_pure]
 repeat refine ob ?_
 refine ⟨_, hCo, (by first | rfl | simp [allA, pure1, pureCs, pureC, A1.cells, cGrp, flat_pure cEst_pure, flat_pure cDebt_pure, flat_pure cDisp_pure, flat_pure cN_pure]), ?_⟩
 try unfold Later
 try simp only [(id F_lDN), seval, cGrp, flat_pure cEst_pure, flat_pure cDebt_pure, flat_pure cDisp_pure, flat_pure cN_pure]
 repeat refine ob ?_
 refine awR [] [none, none, none, none, none, none, none, none] ?_
 simp only [(id F_lDN), seval, cGrp, flat_pure cEst_pure, flat_pure cDebt_pure, flat_pure cDisp_pure, flat_pure cN_pure]
 repeat refine ob ?_
 refine ⟨_, hIx2, (by first | rfl | simp [allA, pure1, pureCs, pureC, A1.cells, cGrp, flat_pure cEst_pure, flat_pure cDebt_pure, flat_pure cDisp_pure, flat_pure cN_pure]), ?_⟩
 try unfold Later
 try simp only [(id F_lDN), seval, cGrp, flat_pure cEst_pure, flat_pure cDebt_pure, flat_pure cDisp_pure, flat_pure cN_pure]
 repeat refine ob ?_
 refine awR [] [none, none, none, none, none, none, none, none] ?_
 simp only [(id F_lDN), seval, cGrp, flat_pure cEst_pure, flat_pure cDebt_pure, flat_pure cDisp_pure, flat_pure cN_pure]
 repeat refine ob ?_
 refine ⟨_, hCh2, (by first | rfl | simp [allA, pure1, pureCs, pureC, A1.cells, cGrp, flat_pure cEst_pure, flat_pure cDebt_pure, flat_pure cDisp_pure, flat_pure cN_pure]), ?_⟩
 try unfold Later
 try simp only [(id F_lDN), seval, cGrp, flat_pure cEst_pure, flat_pure cDebt_pure, flat_pure cDisp_pure, flat_pure cN_pure]
 repeat refine ob ?_
 refine awR [] [none, none, some (65, true), none, none, some (68, true), none, none, some (71, true), some (71, true), some (71, true), none, none, some (76, true), none, none, some (79, true), none, none, some (82, true), some (82, true), some (82, true), none, none] ?_
 simp only [(id F_lDN), seval, cGrp, flat_pure cEst_pure, flat_pure cDebt_pure, flat_pure cDisp_pure, flat_pure cN_pure, decide_true, BEq.rfl]
 repeat refine ob ?_
 refine ⟨_, awake22_A, (by first | rfl | simp [allA, pure1, pureCs, pureC, A1.cells, cGrp, flat_pure cEst_pure, flat_pure cDebt_pure, flat_pure cDisp_pure, flat_pure cN_pure]), ?_⟩
 try unfold Later
 try simp only [(id F_lDN), seval, cGrp, flat_pure cEst_pure, flat_pure cDebt_pure, flat_pure cDisp_pure, flat_pure cN_pure, decide_true, BEq.rfl]
 repeat refine ob ?_
 refine ⟨_, hSI, (by first | rfl | simp [allA, pure1, pureCs, pureC, A1.cells, cGrp, flat_pure cEst_pure, flat_pure cDebt_pure, flat_pure cDisp_pure, flat_pure cN_pure]), ?_⟩
 try unfold Later
 try simp only [(id F_lDN), seval, cGrp, flat_pure cEst_pure, flat_pure cDebt_pure, flat_pure cDisp_pure, flat_pure cN_pure, decide_true, BEq.rfl]
 repeat refine ob ?_
 refine awX ?_
 (first | (simp only [(id F_lDN), seval, cGrp]; done) | (simp only [(id F_lDN), seval, cGrp]; first | (simp []; done)))
theorem lDN_walk (v0 v1 v2 v3 v4 v5 : Value) (n : Nat) (cash : List Nat) (list ds : List N4) (at9 bits : Nat) (W : World) (o0 : rC (fun n : Nat => [.lit (.int .u8 n)]) (· < 256) W (LT W.heap.size) [v0] n) (o1 : rC (cSl 1 cU16) (okSl (· < 65536)) W (LT W.heap.size) [v1] cash) (o2 : rC (cSl 4 cN4) (okSl okN4) W (LT W.heap.size) [v2] list) (o3 : rC (cSl 4 cN4) (okSl okN4) W (LT W.heap.size) [v3] ds) (o4 : rC cU16 (· < 65536) W (LT W.heap.size) [v4] at9) (o5 : rC cU16 (· < 65536) W (LT W.heap.size) [v5] bits) :
    Calls Try.prog 3 #[v0, v1, v2, v3, v4, v5] W fun e w' => e = .returned (.bool true) ∧ Below W.heap.size W w' := by
  obtain ⟨h0, k0⟩ := den_oneC o0 rfl
  obtain ⟨h1, k1⟩ := den_oneC o1 rfl
  obtain ⟨h2, k2⟩ := den_oneC o2 rfl
  obtain ⟨h3, k3⟩ := den_oneC o3 rfl
  obtain ⟨h4, k4⟩ := den_oneC o4 rfl
  obtain ⟨h5, k5⟩ := den_oneC o5 rfl
  exact acall_law (vs := [v0, v1, v2, v3, v4, v5]) (lDN_A n cash list ds at9 bits k0 k1 k2 k3 k4 k5) ⟨h0, h1, h2, h3, h4, h5, trivial⟩
end Go.Proofs.Ytokmkopihhnggaa
end
