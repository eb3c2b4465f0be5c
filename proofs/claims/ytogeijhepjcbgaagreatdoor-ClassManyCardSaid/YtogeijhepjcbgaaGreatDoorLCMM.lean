/- ClassMany: the law's own function; walked by the abstract machine. -/
import Derived.Test.YtogeijhepjcbgaaGreatDoorLGCM
set_option linter.unusedVariables false
set_option linter.unusedSimpArgs false
set_option linter.defProp false
set_option linter.unnecessarySimpa false
/- ClassMany: the law's own function; walked by the abstract machine. -/
namespace Go.Proofs.YtogeijhepjcbgaaGreatDoor
open Go Go.RowKit Go.ChangeShapes Go.WideShapes Go.ChangeAt
noncomputable def mC (j : Nat) : Nat → List GClaim
  | 0 => []
  | r + 1 => mC j r ++ [⟨-1, (r : Int), enc (((1 + j : Int)) : Rat)⟩, ⟨-1, (r : Int), enc ((9 : Int) : Rat)⟩]
noncomputable def mE (R j : Nat) : GEst := ⟨gZ, mC j R, []⟩
noncomputable def mP (R n : Nat) : List (GEst × Nat) := (List.range n).map fun j => (mE R j, 0)
theorem mC_len (j : Nat) : ∀ r, (mC j r).length = 2 * r
  | 0 => rfl
  | r + 1 => by simp [mC, mC_len j r]; omega
theorem mP_get (R n i : Nat) (h : i < n) : (mP R n)[i]? = some (mE R i, 0) := by simp [mP, h]
theorem eRow_zero (R : Nat) : ∀ n, eRow fNil (mP R n) 0 = repl n [.lit (.bool false), .lit (.string bEmpty), .lit (.string bEmpty), .lit (.slice none 0 0), .lit (.slice none 0 0)]
  | 0 => rfl
  | n + 1 => by
    have h := eRow_zero R n
    have e1 : mP R (n + 1) = mP R n ++ [(mE R n, 0)] := by simp [mP, List.range_succ]
    rw [e1, eRow_append, h]
    have e2 : ∀ (m : Nat) (z : List C), repl m z ++ z = repl (m + 1) z := fun m z => by
      induction m with
      | zero => simp [repl_zero, repl_succ]
      | succ m ih => rw [repl_succ, List.append_assoc, ih, ← repl_succ]
    rw [← e2 n]; rfl
theorem mix_zero (R n : Nat) : eRow (mixL 0 fSh fNil) (mP R n) 0 = eRow fNil (mP R n) 0 := eRow_congr _ _ fun j p _ => by simp [mixL]
theorem mix_all (R n : Nat) : eRow (mixL n fSh fNil) (mP R n) 0 = eRow fSh (mP R n) 0 := eRow_congr _ _ fun j p hj => by
  have := (List.getElem?_eq_some_iff.1 hj).1
  simp [mP] at this
  simp [mixL, this]
theorem mix_step (R n i : Nat) (h : i < n) : (eRow (mixL i fSh fNil) (mP R n) 0).set (i * 5 + 3) (.sh 5 (mC i R).length (flat cClaim (mC i R))) = eRow (mixL (i + 1) fSh fNil) (mP R n) 0 := by
  have hp := mP_get R n i h
  have h2 := eRow_set3 (mixL i fSh fNil) (mixL (i + 1) fSh fNil) (mP R n) i (mE R i, 0) (mE R i, 0) hp rfl (fun k x hk _ => by
    unfold mixL
    by_cases h : k < i
    · rw [if_pos h, if_pos (by omega)]
    · rw [if_neg h, if_neg (by omega)])
  have h3 : mixL (i + 1) fSh fNil i (mE R i, 0) = .sh 5 (mC i R).length (flat cClaim (mC i R)) := by simp [mixL, fSh, mE]
  rw [h3] at h2
  rw [h2]
  congr 1
  obtain ⟨h4, h5⟩ := List.getElem?_eq_some_iff.1 hp
  rw [← h5]; exact List.set_getElem_self h4
theorem mP_fst (R n : Nat) : ∀ e ∈ (mP R n).map (·.1), ∃ j, j < n ∧ e = mE R j := fun e he => by
  obtain ⟨p, hp, rfl⟩ := List.mem_map.1 he
  obtain ⟨j, hj, rfl⟩ := List.mem_map.1 hp
  exact ⟨j, by simpa using hj, rfl⟩
theorem qB_int (v : Int) (h : v.natAbs < 256) : qB 1 ((v : Int) : Rat) := ⟨by simpa using h, by simp⟩
theorem mC_sB (j : Nat) (hj : j < 200) : ∀ r, ∀ c ∈ mC j r, sB 1 c.amount
  | 0, c, hc => by simp [mC] at hc
  | r + 1, c, hc => by
    rcases List.mem_append.1 hc with h | h
    · exact mC_sB j hj r c h
    · simp only [List.mem_cons, List.not_mem_nil, or_false] at h
      rcases h with rfl | rfl
      · exact sB_enc (qB_int _ (by omega))
      · exact sB_enc (qB_int _ (by decide))
def F_lCM := And.intro tf15 (And.intro tf16 (And.intro tf17 (And.intro tf19 (And.intro tf20 (And.intro tf23 (And.intro tf24 (And.intro tf30 (And.intro tf74 (And.intro tf75 (And.intro tf4 (And.intro tf77 (And.intro tf51 (And.intro tf60 (tf76))))))))))))))
set_option maxRecDepth 100000 in
set_option maxHeartbeats 4000000 in
theorem lCM_A (nn rk lm : Nat) (hn : nn < 256) (hr8 : rk < 256) (hl8 : lm < 256) : ACall Tryz.prog 6 [.one (.lit (.int .u8 nn)), .one (.lit (.int .u8 rk)), .one (.lit (.int .u8 lm))] (one (.bool true)) := by
 refine acall_of Tryz.func6 rfl (by decide) (N := 84) rfl (by simp) (R := [.tmp 6]) rfl fun en k0 => ?_
 repeat' first|apply awS|apply awB
 refine awR [] [none] ?_
 simp only [(id F_lCM), (id SS), seval, reduceIte, ne_eq, cGrp]
 repeat refine ob ?_
 have w1 : ((nn : Nat) : Int).tmod 8 = ((nn % 8 : Nat) : Int) := by norm_cast
 obtain ⟨m, hm⟩ : ∃ m, m = 1 + nn % 8 := ⟨_, rfl⟩
 have w2 : (1 : Int) + ((nn % 8 : Nat) : Int) = (m : Int) := by omega
 have hmb : m ≤ 8 := by omega
 repeat' first|apply awS|apply awB
 refine awR [] [none, none, none, none, none, none, none, none] ?_
 simp only [(id F_lCM), (id SS), seval, reduceIte, ne_eq, cGrp, w1, w2]
 repeat refine ob ?_
 repeat' first|apply awS|apply awB
 refine awR [] [none, none, none, none] ?_
 simp only [(id F_lCM), (id SS), seval, reduceIte, ne_eq, cGrp]
 repeat refine ob ?_
 refine awp_keep [1, 2, 7, 21, 22, 23] [7, 18] ?_
 try unfold Later
 try simp only [(id F_lCM), (id SS), seval, reduceIte, ne_eq, cGrp]
 repeat' first|apply awS|apply awB
 refine awp_loopw (fun n st => ∃ i nx, i ≤ m ∧ n = m - i ∧ st = ⟨mkT [(1, one (.int .u8 rk)), (2, one (.int .u8 lm)), (7, .val (.one (.ptr 7 1 0))), (21, .val (.one (.own 18 0 m 5))), (22, one (.int .i64 m)), (23, one (.int .i64 i))], mkH [(7, ⟨1, 30, 2, 1, [.own 18 0 m 5, .lit (.slice none 0 0)]⟩), (18, ⟨0, 67, 5, m, eRow (mixL i fSh fNil) (mP (rk % 8 + 1) m) 0⟩)], nx, 0⟩) (m) ⟨0, _, by omega, by omega, by rw [mix_zero, eRow_zero]; rfl⟩ ?_
 rintro n0 st ⟨i, nx0, hi, rfl, rfl⟩
 by_cases hlt0 : (i : Int) < (m : Int)
 ·
  repeat' first|apply awS|apply awB
  refine awR [] [none] ?_
  simp only [(id F_lCM), (id SS), seval, reduceIte, ne_eq, cGrp, hlt0]
  repeat refine ob ?_
  repeat' first|apply awS|apply awB
  refine awT ?_
  refine awp_skip ?_
  simp only [(id F_lCM), (id SS), seval, reduceIte, ne_eq]
  repeat' first|apply awS|apply awB
  refine awR [] [none, none] ?_
  simp only [(id F_lCM), (id SS), seval, reduceIte, ne_eq, cGrp, hlt0]
  repeat refine ob ?_
  repeat' first|apply awS|apply awB
  refine awR [] [none] ?_
  simp only [(id F_lCM), (id SS), seval, reduceIte, ne_eq, cGrp, hlt0]
  repeat refine ob ?_
  have hg3 : (eRow (mixL i fSh fNil) (mP (rk % 8 + 1) m) 0)[i * 5 + 3]? = some (.lit (.slice none 0 0)) := by rw [eRow_get3 _ _ _ _ (mP_get (rk % 8 + 1) m i (by omega))]; simp [mixL, fNil]
  refine awp_nilc 18 (i * 5 + 3) 51 _ 69 5 (by decide) (by rfl) (by decide) (by show (5 : Nat) ≠ 0; decide) hg3 ?_
  refine awp_keep [1, 2, 7, 8, 9, 21, 22, 23] [7, 18, 51] ?_
  try unfold Later
  try simp only [(id F_lCM), (id SS), seval, reduceIte, ne_eq, cGrp, hlt0]
  repeat' first|apply awS|apply awB
  refine awp_loopw (fun n st => ∃ r s nx, r ≤ (rk % 8 + 1) ∧ n = (rk % 8 + 1) - r ∧ st = ⟨mkT [(1, one (.int .u8 rk)), (2, one (.int .u8 lm)), (7, .val (.one (.ptr 7 1 0))), (8, one (.int .i64 i)), (9, one (.int .i64 r)), (21, .val (.one (.own 18 0 m 5))), (22, one (.int .i64 m)), (23, one (.int .i64 i))], mkH [(7, ⟨1, 30, 2, 1, [.own 18 0 m 5, .lit (.slice none 0 0)]⟩), (18, ⟨0, 67, 5, m, (eRow (mixL i fSh fNil) (mP (rk % 8 + 1) m) 0).set (i * 5 + 3) (.own 51 s (2 * r) 5)⟩), (51, ⟨s, 69, 5, 2 * r, flat cClaim (mC i r)⟩)], nx, 0⟩) ((rk % 8 + 1)) ⟨0, _, _, by omega, by omega, rfl⟩ ?_
  rintro n1 st ⟨r, s, nx1, hr, rfl, rfl⟩
  by_cases hlt1 : (r : Int) ≤ ((rk % 8 : Nat) : Int)
  ·
   have w3 : ((rk : Nat) : Int).tmod 8 = ((rk % 8 : Nat) : Int) := by norm_cast
   repeat' first|apply awS|apply awB
   refine awR [] [none, none, none, none, none] ?_
   simp only [(id F_lCM), (id SS), seval, reduceIte, ne_eq, cGrp, hlt0, hlt1, w3]
   repeat refine ob ?_
   repeat' first|apply awS|apply awB
   refine awT ?_
   refine awp_skip ?_
   simp only [(id F_lCM), (id SS), seval, reduceIte, ne_eq]
   have hoff := eRow_len (mixL i fSh fNil) (mP (rk % 8 + 1) m) 0
   have hml : (mP (rk % 8 + 1) m).length = m := by simp [mP]
   have hofl : ∀ c, i * 5 + 3 < ((eRow (mixL i fSh fNil) (mP (rk % 8 + 1) m) 0).set (i * 5 + 3) c).length := fun c => by rw [List.length_set, hoff, hml]; omega
   have hofl0 : i * 5 + 3 < (eRow (mixL i fSh fNil) (mP (rk % 8 + 1) m) 0).length := by rw [hoff, hml]; omega
   have hspl : ∀ c d, spl ((eRow (mixL i fSh fNil) (mP (rk % 8 + 1) m) 0).set (i * 5 + 3) c) (i * 5 + 3) [d] = (eRow (mixL i fSh fNil) (mP (rk % 8 + 1) m) 0).set (i * 5 + 3) d := fun c d => by rw [spl_one _ _ _ (hofl c), List.set_set]
   have hgs : ∀ c, ((eRow (mixL i fSh fNil) (mP (rk % 8 + 1) m) 0).set (i * 5 + 3) c)[i * 5 + 3]? = some c := fun c => by simp [hofl0]
   have hlw : (eRow (mixL i fSh fNil) (mP (rk % 8 + 1) m) 0).length = m * 5 := by rw [hoff, hml]
   repeat' first|apply awS|apply awB
   refine awD (sc [1, 5, 7, 9, 11, 13, 15, 17, 19, 21, 23, 29] (.two 1 12 (sc [24, 27, 30, 33, 34, 36, 39, 41, 42] .nil) (sc [27] (.two 1 15 (sc [30, 33, 34, 36, 39, 41, 42] .nil) (sc [33] (.two 1 17 (sc [34, 36, 39, 41, 42] .nil) (.two 1 18 (sc [36, 39, 41, 42] .nil) (sc [3, 39, 41, 42] .nil)))))))) [none, none, none, none, none, none, none, none, none, none, none, none, none, none, none, none, none, none, none, none, none, none] ?_
   simp only [(id F_lCM), (id SS), seval, reduceIte, ne_eq, cGrp, hlt0, hlt1, hgs, cRat, hlw, List.length_set]
   repeat refine ob ?_
   refine ⟨?_, ?_⟩
   ·
    repeat refine ob ?_
    refine ⟨_, (aWhole (1 + (i : Int)) (by omega) (by omega)), (by first | rfl | simp [allA, pure1, pureCs, pureC, A1.cells, fmR, cGrp, flat_pure cCls_pure, flat_pure cEst_pure, flat_pure cDebt_pure]), ?_⟩
    try unfold Later
    try simp only [(id F_lCM), (id SS), seval, reduceIte, ne_eq, cGrp, hlt0, hlt1, hgs, cRat, hlw, List.length_set]
    repeat refine ob ?_
    refine ⟨_, (aWhole 9 (by decide) (by decide)), (by first | rfl | simp [allA, pure1, pureCs, pureC, A1.cells, fmR, cGrp, flat_pure cCls_pure, flat_pure cEst_pure, flat_pure cDebt_pure]), ?_⟩
    try unfold Later
    try simp only [(id F_lCM), (id SS), seval, reduceIte, ne_eq, cGrp, hlt0, hlt1, hgs, cRat, hlw, List.length_set]
    repeat refine ob ?_
    repeat' first|apply awS|apply awB
    refine awR [] [none, none, none] ?_
    simp only [(id F_lCM), (id SS), seval, reduceIte, ne_eq, cGrp, hlt0, hlt1]
    repeat refine ob ?_
    repeat refine ob ?_
    have hmc : mC i (r + 1) = mC i r ++ [⟨-1, (r : Int), enc ((1 + i : Int) : Rat)⟩, ⟨-1, (r : Int), enc ((9 : Int) : Rat)⟩] := rfl
    have h2r : 2 * r + 2 = 2 * (r + 1) := by omega
    refine ⟨_, wk_keep [1, 2, 7, 8, 9, 21, 22, 23] [7, 18, 51], (rk % 8 + 1) - (r + 1), by omega, r + 1, ?sa10, ?na10, by omega, rfl, ?st10⟩
    case st10 => (simp only [(id F_lCM), (id SS), seval, reduceIte, ne_eq, hmc, flat_append, flat_cons, flat_nil, cClaim, h2r, hspl]; first | rfl | (simp; done))
   ·
    repeat refine ob ?_
    refine ⟨_, (aWhole (1 + (i : Int)) (by omega) (by omega)), (by first | rfl | simp [allA, pure1, pureCs, pureC, A1.cells, fmR, cGrp, flat_pure cCls_pure, flat_pure cEst_pure, flat_pure cDebt_pure]), ?_⟩
    try unfold Later
    try simp only [(id F_lCM), (id SS), seval, reduceIte, ne_eq, cGrp, hlt0, hlt1, hgs, cRat, hlw, List.length_set]
    repeat refine ob ?_
    refine ⟨?_, ?_⟩
    ·
     repeat refine ob ?_
     refine ⟨_, (aWhole 9 (by decide) (by decide)), (by first | rfl | simp [allA, pure1, pureCs, pureC, A1.cells, fmR, cGrp, flat_pure cCls_pure, flat_pure cEst_pure, flat_pure cDebt_pure]), ?_⟩
     try unfold Later
     try simp only [(id F_lCM), (id SS), seval, reduceIte, ne_eq, cGrp, hlt0, hlt1, hgs, cRat, hlw, List.length_set]
     repeat refine ob ?_
     repeat' first|apply awS|apply awB
     refine awR [] [none, none, none] ?_
     simp only [(id F_lCM), (id SS), seval, reduceIte, ne_eq, cGrp, hlt0, hlt1]
     repeat refine ob ?_
     repeat refine ob ?_
     have hmc : mC i (r + 1) = mC i r ++ [⟨-1, (r : Int), enc ((1 + i : Int) : Rat)⟩, ⟨-1, (r : Int), enc ((9 : Int) : Rat)⟩] := rfl
     have h2r : 2 * r + 2 = 2 * (r + 1) := by omega
     refine ⟨_, wk_keep [1, 2, 7, 8, 9, 21, 22, 23] [7, 18, 51], (rk % 8 + 1) - (r + 1), by omega, r + 1, ?sa12, ?na12, by omega, rfl, ?st12⟩
     case st12 => (simp only [(id F_lCM), (id SS), seval, reduceIte, ne_eq, hmc, flat_append, flat_cons, flat_nil, cClaim, h2r, hspl]; first | rfl | (simp; done))
    ·
     repeat refine ob ?_
     refine ⟨_, (aWhole 9 (by decide) (by decide)), (by first | rfl | simp [allA, pure1, pureCs, pureC, A1.cells, fmR, cGrp, flat_pure cCls_pure, flat_pure cEst_pure, flat_pure cDebt_pure]), ?_⟩
     try unfold Later
     try simp only [(id F_lCM), (id SS), seval, reduceIte, ne_eq, cGrp, hlt0, hlt1, hgs, cRat, hlw, List.length_set]
     repeat refine ob ?_
     refine ⟨?_, ?_⟩
     ·
      repeat refine ob ?_
      repeat' first|apply awS|apply awB
      refine awR [] [none, none, none] ?_
      simp only [(id F_lCM), (id SS), seval, reduceIte, ne_eq, cGrp, hlt0, hlt1]
      repeat refine ob ?_
      repeat refine ob ?_
      have hmc : mC i (r + 1) = mC i r ++ [⟨-1, (r : Int), enc ((1 + i : Int) : Rat)⟩, ⟨-1, (r : Int), enc ((9 : Int) : Rat)⟩] := rfl
      have h2r : 2 * r + 2 = 2 * (r + 1) := by omega
      refine ⟨_, wk_keep [1, 2, 7, 8, 9, 21, 22, 23] [7, 18, 51], (rk % 8 + 1) - (r + 1), by omega, r + 1, ?sa14, ?na14, by omega, rfl, ?st14⟩
      case st14 => (simp only [(id F_lCM), (id SS), seval, reduceIte, ne_eq, hmc, flat_append, flat_cons, flat_nil, cClaim, h2r, hspl]; first | rfl | (simp; done))
     ·
      repeat refine ob ?_
      refine ⟨?_, ?_⟩
      ·
       repeat refine ob ?_
       repeat' first|apply awS|apply awB
       refine awR [] [none, none, none] ?_
       simp only [(id F_lCM), (id SS), seval, reduceIte, ne_eq, cGrp, hlt0, hlt1]
       repeat refine ob ?_
       repeat refine ob ?_
       have hmc : mC i (r + 1) = mC i r ++ [⟨-1, (r : Int), enc ((1 + i : Int) : Rat)⟩, ⟨-1, (r : Int), enc ((9 : Int) : Rat)⟩] := rfl
       have h2r : 2 * r + 2 = 2 * (r + 1) := by omega
       refine ⟨_, wk_keep [1, 2, 7, 8, 9, 21, 22, 23] [7, 18, 51], (rk % 8 + 1) - (r + 1), by omega, r + 1, ?sa16, ?na16, by omega, rfl, ?st16⟩
       case st16 => (simp only [(id F_lCM), (id SS), seval, reduceIte, ne_eq, hmc, flat_append, flat_cons, flat_nil, cClaim, h2r, hspl]; first | rfl | (simp; done))
      ·
       repeat refine ob ?_
       repeat' first|apply awS|apply awB
       refine awR [] [none, none, none] ?_
       simp only [(id F_lCM), (id SS), seval, reduceIte, ne_eq, cGrp, hlt0, hlt1]
       repeat refine ob ?_
       repeat refine ob ?_
       have hmc : mC i (r + 1) = mC i r ++ [⟨-1, (r : Int), enc ((1 + i : Int) : Rat)⟩, ⟨-1, (r : Int), enc ((9 : Int) : Rat)⟩] := rfl
       have h2r : 2 * r + 2 = 2 * (r + 1) := by omega
       refine ⟨_, wk_keep [1, 2, 7, 8, 9, 21, 22, 23] [7, 18, 51], (rk % 8 + 1) - (r + 1), by omega, r + 1, ?sa18, ?na18, by omega, rfl, ?st18⟩
       case st18 => (simp only [(id F_lCM), (id SS), seval, reduceIte, ne_eq, hmc, flat_append, flat_cons, flat_nil, cClaim, h2r, hspl]; first | rfl | (simp; done))
  ·
   have w3 : ((rk : Nat) : Int).tmod 8 = ((rk % 8 : Nat) : Int) := by norm_cast
   repeat' first|apply awS|apply awB
   refine awR [] [none, none, none, none, none] ?_
   simp only [(id F_lCM), (id SS), seval, reduceIte, ne_eq, cGrp, hlt0, hlt1, w3]
   repeat refine ob ?_
   repeat' first|apply awS|apply awB
   refine awF ?_
   refine awp_exit ?_
   simp only [(id F_lCM), (id SS), seval, reduceIte, ne_eq]
   obtain rfl : r = (rk % 8 + 1) := by omega
   have hms := mix_step (rk % 8 + 1) m i (by omega)
   have hlw2 : (eRow (mixL i fSh fNil) (mP (rk % 8 + 1) m) 0).length = m * 5 := by rw [eRow_len]; simp [mP]
   have hgx : ∀ c, ((eRow (mixL i fSh fNil) (mP (rk % 8 + 1) m) 0).set (i * 5 + 3) c)[i * 5 + 3]? = some c := fun c => by rw [List.getElem?_set_self (by omega)]
   refine awp_pubc 51 18 (i * 5 + 3) (by rfl) (by rfl) (hgx _) (by decide) (by show (5 : Nat) ≠ 0; decide) (by show (5 : Nat) ≠ 0; decide) rfl ?_
   simp only [(id F_lCM), (id SS), seval, reduceIte, ne_eq, List.set_set]
   rw [mC_len] at hms
   repeat' first|apply awS|apply awB
   refine awR [] [none, none] ?_
   simp only [(id F_lCM), (id SS), seval, reduceIte, ne_eq, cGrp, hlt0, hlt1]
   repeat refine ob ?_
   repeat refine ob ?_
   refine ⟨_, wk_keep [1, 2, 7, 21, 22, 23] [7, 18], m - (i + 1), by omega, i + 1, ?na21, by omega, rfl, ?st21⟩
   case st21 => (simp only [(id F_lCM), (id SS), seval, reduceIte, ne_eq, hms]; first | rfl | (simp; done))
 ·
  repeat' first|apply awS|apply awB
  refine awR [] [none] ?_
  simp only [(id F_lCM), (id SS), seval, reduceIte, ne_eq, cGrp, hlt0]
  repeat refine ob ?_
  repeat' first|apply awS|apply awB
  refine awF ?_
  refine awp_exit ?_
  simp only [(id F_lCM), (id SS), seval, reduceIte, ne_eq]
  obtain rfl : i = m := by omega
  rw [mix_all]
  refine awp_wk (wk_cells 18 (flat cEst ((mP (rk % 8 + 1) i).map (·.1))) (by rfl) (by show (5 : Nat) ≠ 0; decide) (by rw [flat_length cEst_len, List.length_map]; exact (eRow_len fSh _ 0).symm) (eRow_est (mP (rk % 8 + 1) i) 0 (fun p hp => by unfold mP at hp; obtain ⟨j, _, rfl⟩ := List.mem_map.1 hp; rfl))) ?_
  refine awp_pubc 18 7 0 (by rfl) (by rfl) (by rfl) (by decide) (by show (5 : Nat) ≠ 0; decide) (by show (2 : Nat) ≠ 0; decide) rfl ?_
  obtain ⟨g, hg⟩ : ∃ g : GGrp, g = ⟨(mP (rk % 8 + 1) i).map (·.1), []⟩ := ⟨_, rfl⟩
  have hml : g.ests.length = i := by rw [hg]; simp [mP]
  refine awp_wk (wk_cells 7 (cGrp g) (by rfl) (by show (2 : Nat) ≠ 0; decide) (by rfl) (fun κ vs h => ?_)) ?_
  ·
   obtain ⟨v1, vs1, rfl, d1, h⟩ := denVs_cons h
   obtain ⟨v2, vs2, rfl, d2, h⟩ := denVs_cons h
   have hgd : g.debts = [] := by rw [hg]
   have hge : g.ests = (mP (rk % 8 + 1) i).map (·.1) := by rw [hg]
   simp only [cGrp, hgd, hml]
   rw [hge]
   exact ⟨d1, den_nilsh 4 d2, h⟩
  simp only [(id F_lCM), (id SS), seval, reduceIte, ne_eq]
  have hE : ∀ e ∈ g.ests, ∃ j, j < i ∧ e = mE (rk % 8 + 1) j := by rw [hg]; exact mP_fst _ _
  have hok : grpOK2 g := ⟨fun e he => ?hok1, by rw [hg]; simp, by rw [hg]; simp⟩
  case hok1 =>
   obtain ⟨j, hj, rfl⟩ := hE e he
   exact ⟨⟨ratOK_gZ, fun c hc => ⟨by have := (mC_sB j (by omega) _ c hc).1; omega, by have := (mC_sB j (by omega) _ c hc).2; omega⟩, by show (mC j _).length ≤ _; rw [mC_len]; omega, by simp [mE]⟩, by simp [mE]⟩
  have hce : ∀ e ∈ g.ests, e.claims.length ≤ 1000000 ∧ ∀ c ∈ e.claims, bigOK c.amount := fun e he => by
   obtain ⟨j, hj, rfl⟩ := hE e he
   exact ⟨by show (mC j _).length ≤ _; rw [mC_len]; omega, fun c hc => (mC_sB j (by omega) _ c hc).mono (by decide)⟩
  have hgo := grpOK2_ok hok
  have hwl : ((lm : Nat) : Int).tmod 10 = ((lm % 10 : Nat) : Int) := by norm_cast
  have hwu : IntKind.u8.wrap ((lm % 10 : Nat) : Int) = ((lm % 10 : Nat) : Int) := by have : lm % 10 < 10 := Nat.mod_lt _ (by decide); simp [IntKind.wrap, IntKind.bits, IntKind.signed]; omega
  have hA := cForms_A g (enc (((lm % 10 : Nat) : Int) : Rat)) ((sB_enc (qB_int _ (by omega))).mono (by decide)) hgo (by omega) hce
  have hB := rForms_A g (enc (((lm % 10 : Nat) : Int) : Rat)) ((sB_enc (qB_int _ (by omega))).mono (by decide)) hok (by omega) hce
  rw [← gc_cg] at hB
  have hfo := foE_ok (n := 16) (lim := enc (((lm % 10 : Nat) : Int) : Rat)) (l := g.ests) (i := 0) (out := []) (fun e he => by obtain ⟨j, hj, rfl⟩ := hE e he; show (mC j _).length ≤ _; rw [mC_len]; omega) (by simp)
  have hL : (foL (gcSpec g) (enc (((lm % 10 : Nat) : Int) : Rat)) g).length ≤ 1000000000000 ∧ ∀ c ∈ foL (gcSpec g) (enc (((lm % 10 : Nat) : Int) : Rat)) g, c.claims.length ≤ 1000000000000 := by
   have hfl := foE_len (enc (((lm % 10 : Nat) : Int) : Rat)) g.ests 0 []
   unfold foL
   simp only [List.length_nil] at hfl
   split
   ·
    split
    ·
     simp
    ·
     exact ⟨by omega, fun c hc => by have := (hfo c hc).2; omega⟩
   ·
    simp
  have hS := SameClasses_yes _ hL.1 hL.2
  generalize foL (gcSpec g) (enc (((lm % 10 : Nat) : Int) : Rat)) g = L at *
  generalize foC (gcSpec g) (enc (((lm % 10 : Nat) : Int) : Rat)) g = fc at *
  repeat' first|apply awS|apply awB
  refine awD (sc [1, 3, 5, 7, 8, 10, 13, 15, 17, 19, 21] .nil) [none, none, none, none, none, none, none, none, none, none, none] ?_
  simp only [(id F_lCM), (id SS), seval, reduceIte, ne_eq, cGrp, hlt0, hwl, hwu, cRat, fmR, flat_pure cEst_pure, flat_pure cDebt_pure]
  repeat refine ob ?_
  refine ⟨_, (aWhole ((lm % 10 : Nat) : Int) (by omega) (by omega)), (by first | rfl | simp [allA, pure1, pureCs, pureC, A1.cells, fmR, cGrp, flat_pure cCls_pure, flat_pure cEst_pure, flat_pure cDebt_pure]), ?_⟩
  try unfold Later
  try simp only [(id F_lCM), (id SS), seval, reduceIte, ne_eq, cGrp, hlt0, hwl, hwu, cRat, fmR, flat_pure cEst_pure, flat_pure cDebt_pure]
  repeat refine ob ?_
  refine ⟨_, hA, (by first | rfl | simp [allA, pure1, pureCs, pureC, A1.cells, fmR, cGrp, flat_pure cCls_pure, flat_pure cEst_pure, flat_pure cDebt_pure]), ?_⟩
  try unfold Later
  try simp only [(id F_lCM), (id SS), seval, reduceIte, ne_eq, cGrp, hlt0, hwl, hwu, cRat, fmR, flat_pure cEst_pure, flat_pure cDebt_pure]
  repeat refine ob ?_
  repeat' first|apply awS|apply awB
  refine awD (sc [1, 3, 5, 7, 8, 10, 13, 15, 17, 19, 21] .nil) [none, none, none, none, none, none, none, none, none, none, none] ?_
  simp only [(id F_lCM), (id SS), seval, reduceIte, ne_eq, cGrp, hlt0, hwl, hwu, cRat, fmR, flat_pure cEst_pure, flat_pure cDebt_pure]
  repeat refine ob ?_
  refine ⟨_, (aWhole ((lm % 10 : Nat) : Int) (by omega) (by omega)), (by first | rfl | simp [allA, pure1, pureCs, pureC, A1.cells, fmR, cGrp, flat_pure cCls_pure, flat_pure cEst_pure, flat_pure cDebt_pure]), ?_⟩
  try unfold Later
  try simp only [(id F_lCM), (id SS), seval, reduceIte, ne_eq, cGrp, hlt0, hwl, hwu, cRat, fmR, flat_pure cEst_pure, flat_pure cDebt_pure]
  repeat refine ob ?_
  refine ⟨_, hB, (by first | rfl | simp [allA, pure1, pureCs, pureC, A1.cells, fmR, cGrp, flat_pure cCls_pure, flat_pure cEst_pure, flat_pure cDebt_pure]), ?_⟩
  try unfold Later
  try simp only [(id F_lCM), (id SS), seval, reduceIte, ne_eq, cGrp, hlt0, hwl, hwu, cRat, fmR, flat_pure cEst_pure, flat_pure cDebt_pure]
  repeat refine ob ?_
  repeat' first|apply awS|apply awB
  refine awR [] [none, none, some (74, true), some (74, true), some (74, true), none, none, some (79, true), some (79, true), some (79, true), none, none] ?_
  simp only [(id F_lCM), (id SS), seval, reduceIte, ne_eq, cGrp, hlt0, flat_pure cCls_pure, decide_true, BEq.rfl]
  repeat refine ob ?_
  refine ⟨_, awake29_A, (by first | rfl | simp [allA, pure1, pureCs, pureC, A1.cells, fmR, cGrp, flat_pure cCls_pure, flat_pure cEst_pure, flat_pure cDebt_pure]), ?_⟩
  try unfold Later
  try simp only [(id F_lCM), (id SS), seval, reduceIte, ne_eq, cGrp, hlt0, flat_pure cCls_pure, decide_true, BEq.rfl]
  repeat refine ob ?_
  refine ⟨_, hS, (by first | rfl | simp [allA, pure1, pureCs, pureC, A1.cells, fmR, cGrp, flat_pure cCls_pure, flat_pure cEst_pure, flat_pure cDebt_pure]), ?_⟩
  try unfold Later
  try simp only [(id F_lCM), (id SS), seval, reduceIte, ne_eq, cGrp, hlt0, flat_pure cCls_pure, decide_true, BEq.rfl]
  repeat refine ob ?_
  repeat' first|apply awS|apply awB
  refine awp_ret ?_
  (first | (simp only [(id F_lCM), (id SS), seval, reduceIte, ne_eq, cGrp, hlt0]; done) | (simp only [(id F_lCM), (id SS), seval, reduceIte, ne_eq, cGrp]; first | (simp [hlt0]; done)))
theorem lCM_walk (v0 v1 v2 : Value) (n rk lm : Nat) (W : World) (o0 : rC (fun n : Nat => [.lit (.int .u8 n)]) (· < 256) W (LT W.heap.size) [v0] n) (o1 : rC (fun n : Nat => [.lit (.int .u8 n)]) (· < 256) W (LT W.heap.size) [v1] rk) (o2 : rC (fun n : Nat => [.lit (.int .u8 n)]) (· < 256) W (LT W.heap.size) [v2] lm) :
    Calls Tryz.prog 6 #[v0, v1, v2] W fun e w' => e = .returned (.bool true) ∧ Below W.heap.size W w' := by
  obtain ⟨h0, k0⟩ := den_oneC o0 rfl
  obtain ⟨h1, k1⟩ := den_oneC o1 rfl
  obtain ⟨h2, k2⟩ := den_oneC o2 rfl
  exact acall_law (vs := [v0, v1, v2]) (lCM_A n rk lm k0 k1 k2) ⟨h0, h1, h2, trivial⟩
end Go.Proofs.YtogeijhepjcbgaaGreatDoor
