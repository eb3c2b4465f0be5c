/- The waterfall's functions for an estate: Total, Gross, Deliver; walked by the abstract machine. -/
import Derived.Test.YtmbahnmhicdjfaaGreatDoorWl8M
set_option linter.unusedVariables false
set_option linter.unusedSimpArgs false
set_option linter.defProp false
set_option linter.unnecessarySimpa false
set_option linter.unusedSectionVars false
section
/- The waterfall's functions for an estate: Total, Gross, Deliver; walked by the abstract machine. -/
namespace Go.Proofs.YtmbahnmhicdjfaaGreatDoor
open Go Go.RowKit
structure eIn (e : GEst) (K M nc na : Nat) : Prop where
  ok : estOK e
  s : estS K e
  k0 : 0 < K
  m0 : 0 < M
  hnc : e.claims.length ≤ nc
  nc2 : nc ≤ 24
  hna : e.agrs.length ≤ na
  kb : K ≤ 10000
  mb : M ≤ 40000000
  b : kG nc K M ≤ 40000000 ∧ kY nc K M ≤ 40000000000 ∧ kG nc K M + (na * 600) * (kY nc K M + 1) ≤ 50000000000
theorem aMaxQ (r : GRat) (M : Nat) (h : sB M r) (h0 : 0 < M) (hM : M ≤ 100000000000) : ACall Tryz.prog 138 [.agg (cRat r), .agg [.lit (.bool false), .lit (.string bEmpty), .lit (.string bEmpty)]] (.val (.agg (cRat (enc (qmax (qOf r) 0))))) := by
  have h1 := aMax r gZ M 1 h ⟨by decide, by decide⟩ hM (by decide) h0 (by decide)
  rw [qOf_gZ] at h1
  exact h1
noncomputable def mPos (r : GRat) : Rat := qmax (qOf r) 0
theorem mPos_B {r : GRat} {M : Nat} (h : sB M r) (h0 : 0 < M) : qB M (mPos r) := by
  unfold mPos qmax
  split
  · exact qB_zero.mono h0
  exact h.qB h0
noncomputable def dlR (e : GEst) (m : Rat) : AV := .tup [.one (if wcSpec e = 0 then .sh 3 e.claims.length (flat cQ (wDel (wLay e) m).cl) else .lit (.slice none 0 0)), .agg (cRat (enc (if wcSpec e = 0 then (wDel (wLay e) m).rv else 0))), .one (.lit (.int .i64 (wcSpec e)))]
def F_wPo := And.intro zS (And.intro tf18 (And.intro tf43 (tf44)))
set_option maxRecDepth 100000 in
set_option maxHeartbeats 4000000 in
theorem positive_A (r : GRat) (M : Nat) (h : sB M r) (h0 : 0 < M) (hM : M ≤ 100000000000) : ACall Tryz.prog 88 [.agg (cRat r)] (.val (.agg (cRat (enc (mPos r))))) := by
 have hA := aMaxQ r M h h0 hM
 simp only [cRat] at hA
 refine acall_of Tryz.func88 rfl (by decide) (N := 6) rfl (by simp) (R := [.cell 2 32]) rfl fun en k0 => ?_
 refine awR [] [none, none] ?_
 simp only [(id F_wPo), seval, cRat]
 repeat refine ob ?_
 refine awR [] [none, none, none, none] ?_
 simp only [(id F_wPo), seval, cRat]
 repeat refine ob ?_
 refine ⟨_, hA, rfl, ?_⟩
 try unfold Later
 try simp only [(id F_wPo), seval, cRat]
 repeat refine ob ?_
 refine awX ?_
 (first | (simp only [(id F_wPo), seval, cRat, mPos, cRat]; done) | (simp only [(id F_wPo), seval, cRat]; first | (simp [mPos, cRat]; done)))
def F_wDv := And.intro zS (And.intro tf38 (And.intro tf18 (And.intro tf43 (tf44))))
set_option maxRecDepth 100000 in
set_option maxHeartbeats 4000000 in
theorem wDeliver_A (e : GEst) (m : GRat) (K M nc na : Nat) (hI : eIn e K M nc na) (hm : sB M m) : ACall Tryz.prog 37 [.agg (cEst e), .agg (cRat m)] (dlR e (mPos m)) := by
 refine acall_of Tryz.func37 rfl (by decide) (N := 26) rfl (by simp) (R := [.tmp 4, .cell 5 32, .tmp 6]) rfl fun en k0 => ?_
 refine awR [] [none, none, none, none, none] ?_
 simp only [(id F_wDv), seval, cEst, cRat]
 repeat refine ob ?_
 have hC := wCheck_A e hI.ok
 refine awR [] [none, none, none] ?_
 simp only [(id F_wDv), seval, cEst, flat_pure cClaim_pure, flat_pure cAgr_pure]
 repeat refine ob ?_
 refine ⟨_, hC, (by first | rfl | simp [allA, pure1, pureCs, pureC, A1.cells, cLay, cRat, flat_pure cQ_pure, flat_pure cWT_pure, flat_pure cPool_pure]), ?_⟩
 try unfold Later
 try simp only [(id F_wDv), seval, cEst, flat_pure cClaim_pure, flat_pure cAgr_pure]
 repeat refine ob ?_
 by_cases h0 : wcSpec e = 0
 ·
  refine awR [] [none, none] ?_
  simp only [(id F_wDv), seval, cEst, h0]
  repeat refine ob ?_
  refine awF ?_
  refine awK ?_
  simp only [(id F_wDv), seval]
  have hW := wc_ok h0
  have hLay := Lay_A e K (K + 576 * (K + 1)) (by have := hW.n; omega) (by have := hW.an; omega) hW.cl.rk hI.s.2.1 hI.k0 (by have := hI.kb; omega) (wc_layB hW hI.s hI.k0 hI.kb)
  have hB := wc_delB hW hI.s hI.k0 hI.hnc hI.nc2 hI.hna hI.b
  have hP := positive_A m M hm hI.m0 (by have := hI.mb; omega)
  have hG := lDel_A (wLay e) (mPos m) K (kS nc K) M (kZ nc K M) _ _ _ _ hB (mPos_B hm hI.m0)
  simp only [cRat, delR] at hG hP
  refine awD (scq [1, 5] (.two 1 8 (.two 3 8 (.two 4 8 (scq [11, 13, 15, 16, 19, 20] .nil) (scq [8, 11, 13, 15, 19, 20] .nil)) (scq [6, 8, 11, 13, 15, 19, 20] .nil)) (scq [2, 6, 8, 11, 13, 15, 19, 20] .nil))) [none, none, none, none, none, none, none, none, none, none, none] ?_
  simp only [(id F_wDv), seval, cEst, h0, flat_pure cClaim_pure, flat_pure cAgr_pure, flat_pure cWT_pure, flat_pure cPool_pure, cLay, cRat, flat_pure cQ_pure]
  repeat refine ob ?_
  refine ⟨?_, ?_⟩
  ·
   repeat refine ob ?_
   refine ⟨_, hLay, (by first | rfl | simp [allA, pure1, pureCs, pureC, A1.cells, cLay, cRat, flat_pure cQ_pure, flat_pure cWT_pure, flat_pure cPool_pure]), ?_⟩
   try unfold Later
   try simp only [(id F_wDv), seval, cEst, h0, flat_pure cClaim_pure, flat_pure cAgr_pure, flat_pure cWT_pure, flat_pure cPool_pure, cLay, cRat, flat_pure cQ_pure]
   repeat refine ob ?_
   refine ⟨?_, ?_⟩
   ·
    repeat refine ob ?_
    refine ⟨_, hP, (by first | rfl | simp [allA, pure1, pureCs, pureC, A1.cells, cLay, cRat, flat_pure cQ_pure, flat_pure cWT_pure, flat_pure cPool_pure]), ?_⟩
    try unfold Later
    try simp only [(id F_wDv), seval, cEst, h0, flat_pure cClaim_pure, flat_pure cAgr_pure, flat_pure cWT_pure, flat_pure cPool_pure, cLay, cRat, flat_pure cQ_pure]
    repeat refine ob ?_
    refine ⟨?_, ?_⟩
    ·
     repeat refine ob ?_
     refine ⟨_, hG, (by first | rfl | simp [allA, pure1, pureCs, pureC, A1.cells, cLay, cRat, flat_pure cQ_pure, flat_pure cWT_pure, flat_pure cPool_pure]), ?_⟩
     try unfold Later
     try simp only [(id F_wDv), seval, cEst, h0, flat_pure cClaim_pure, flat_pure cAgr_pure, flat_pure cWT_pure, flat_pure cPool_pure, cLay, cRat, flat_pure cQ_pure]
     repeat refine ob ?_
     refine awD (scq [1, 3, 5, 6, 9] .nil) [none, none, none, none, none] ?_
     simp only [(id F_wDv), seval, cEst, h0, flat_pure cQ_pure]
     repeat refine ob ?_
     refine awX ?_
     simp only [(id F_wDv), seval, flat_pure cQ_pure]
     simp [dlR, h0, wLay, cRat]
    repeat refine ob ?_
    refine ⟨_, hG, (by first | rfl | simp [allA, pure1, pureCs, pureC, A1.cells, cLay, cRat, flat_pure cQ_pure, flat_pure cWT_pure, flat_pure cPool_pure]), ?_⟩
    try unfold Later
    try simp only [(id F_wDv), seval, cEst, h0, flat_pure cClaim_pure, flat_pure cAgr_pure, flat_pure cWT_pure, flat_pure cPool_pure, cLay, cRat, flat_pure cQ_pure]
    repeat refine ob ?_
    refine awD (scq [1, 3, 5, 6, 9] .nil) [none, none, none, none, none] ?_
    simp only [(id F_wDv), seval, cEst, h0, flat_pure cQ_pure]
    repeat refine ob ?_
    refine awX ?_
    simp only [(id F_wDv), seval, flat_pure cQ_pure]
    simp [dlR, h0, wLay, cRat]
   repeat refine ob ?_
   refine ⟨_, hP, (by first | rfl | simp [allA, pure1, pureCs, pureC, A1.cells, cLay, cRat, flat_pure cQ_pure, flat_pure cWT_pure, flat_pure cPool_pure]), ?_⟩
   try unfold Later
   try simp only [(id F_wDv), seval, cEst, h0, flat_pure cClaim_pure, flat_pure cAgr_pure, flat_pure cWT_pure, flat_pure cPool_pure, cLay, cRat, flat_pure cQ_pure]
   repeat refine ob ?_
   refine ⟨_, hG, (by first | rfl | simp [allA, pure1, pureCs, pureC, A1.cells, cLay, cRat, flat_pure cQ_pure, flat_pure cWT_pure, flat_pure cPool_pure]), ?_⟩
   try unfold Later
   try simp only [(id F_wDv), seval, cEst, h0, flat_pure cClaim_pure, flat_pure cAgr_pure, flat_pure cWT_pure, flat_pure cPool_pure, cLay, cRat, flat_pure cQ_pure]
   repeat refine ob ?_
   refine awD (scq [1, 3, 5, 6, 9] .nil) [none, none, none, none, none] ?_
   simp only [(id F_wDv), seval, cEst, h0, flat_pure cQ_pure]
   repeat refine ob ?_
   refine awX ?_
   simp only [(id F_wDv), seval, flat_pure cQ_pure]
   simp [dlR, h0, wLay, cRat]
  repeat refine ob ?_
  refine ⟨_, hLay, (by first | rfl | simp [allA, pure1, pureCs, pureC, A1.cells, cLay, cRat, flat_pure cQ_pure, flat_pure cWT_pure, flat_pure cPool_pure]), ?_⟩
  try unfold Later
  try simp only [(id F_wDv), seval, cEst, h0, flat_pure cClaim_pure, flat_pure cAgr_pure, flat_pure cWT_pure, flat_pure cPool_pure, cLay, cRat, flat_pure cQ_pure]
  repeat refine ob ?_
  refine ⟨_, hP, (by first | rfl | simp [allA, pure1, pureCs, pureC, A1.cells, cLay, cRat, flat_pure cQ_pure, flat_pure cWT_pure, flat_pure cPool_pure]), ?_⟩
  try unfold Later
  try simp only [(id F_wDv), seval, cEst, h0, flat_pure cClaim_pure, flat_pure cAgr_pure, flat_pure cWT_pure, flat_pure cPool_pure, cLay, cRat, flat_pure cQ_pure]
  repeat refine ob ?_
  refine ⟨_, hG, (by first | rfl | simp [allA, pure1, pureCs, pureC, A1.cells, cLay, cRat, flat_pure cQ_pure, flat_pure cWT_pure, flat_pure cPool_pure]), ?_⟩
  try unfold Later
  try simp only [(id F_wDv), seval, cEst, h0, flat_pure cClaim_pure, flat_pure cAgr_pure, flat_pure cWT_pure, flat_pure cPool_pure, cLay, cRat, flat_pure cQ_pure]
  repeat refine ob ?_
  refine awD (scq [1, 3, 5, 6, 9] .nil) [none, none, none, none, none] ?_
  simp only [(id F_wDv), seval, cEst, h0, flat_pure cQ_pure]
  repeat refine ob ?_
  refine awX ?_
  simp only [(id F_wDv), seval, flat_pure cQ_pure]
  simp [dlR, h0, wLay, cRat]
 refine awR [] [none, none] ?_
 simp only [(id F_wDv), seval, cEst, h0]
 repeat refine ob ?_
 refine awT ?_
 refine awR [] [none, none, none, none, none] ?_
 simp only [(id F_wDv), seval, cEst, h0]
 repeat refine ob ?_
 refine awX ?_
 simp only [(id F_wDv), seval]
 simp [dlR, h0, enc0_cells]
end Go.Proofs.YtmbahnmhicdjfaaGreatDoor
end
section
/- The waterfall's own check of its examples; walked by the abstract machine. -/
namespace Go.Proofs.YtmbahnmhicdjfaaGreatDoor
open Go Go.RowKit
theorem rat_fieldsW : (Tryz.prog.fieldsOf 32).toList = [⟨"Neg", 4, 0, false, "", "", 0⟩, ⟨"Num", 9, 1, false, "", "", 8⟩, ⟨"Den", 9, 2, false, "", "", 24⟩] := by kernel_rfl
theorem bool_oneTW : ldT Tryz.prog 4 = some (false, 1) := by kernel_rfl
theorem string_oneTW : ldT Tryz.prog 9 = some (false, 1) := by kernel_rfl
theorem part_boolW (cs : Array Value) (i : Nat) (v : Value) (h : cs[i]? = some v) (w : World) : (part 4 cs i).run Tryz.prog w = .ok v w := by
  simp [part, (ldT_one bool_oneTW w).1, h]
theorem part_strW (cs : Array Value) (i : Nat) (v : Value) (h : cs[i]? = some v) (w : World) : (part 9 cs i).run Tryz.prog w = .ok v w := by
  simp [part, (ldT_one string_oneTW w).1, h]
theorem EqOK_ratW (a : GRat) : EqOK Tryz.prog 32 [.bool a.neg, .string a.num, .string a.den] [.bool a.neg, .string a.num, .string a.den] := fun w => ⟨by
  obtain ⟨x, y, z⟩ := a
  have h2 := run_equalIn_agg (P := Tryz.prog) w 9999 32 #[.bool x, .string y, .string z] #[.bool x, .string y, .string z] (by kernel_rfl) (by kernel_rfl)
  have h3 : (Op.equal 32 (.agg #[.bool x, .string y, .string z]) (.agg #[.bool x, .string y, .string z])).run Tryz.prog w = (Op.equalIn (9999 + 1) 32 (.agg #[.bool x, .string y, .string z]) (.agg #[.bool x, .string y, .string z])).run Tryz.prog w := rfl
  have hb := fun (a b : Bool) => run_equalIn_bool' (P := Tryz.prog) w 9998 4 a b (by kernel_rfl)
  have hs := fun (a b : ByteArray) => run_equalIn_string (P := Tryz.prog) w 9998 9 a b (by kernel_rfl)
  have p0 := part_boolW #[.bool x, .string y, .string z] 0 _ rfl w
  have p1 := part_strW #[.bool x, .string y, .string z] 1 _ rfl w
  have p2 := part_strW #[.bool x, .string y, .string z] 2 _ rfl w
  show (Op.equal 32 (.agg #[.bool x, .string y, .string z]) (.agg #[.bool x, .string y, .string z])).run Tryz.prog w = _
  rw [h3, h2, rat_fieldsW]
  have n1 : ¬ "Neg" = "_" := by decide
  have n2 : ¬ "Num" = "_" := by decide
  have n3 : ¬ "Den" = "_" := by decide
  simp only [Op.eqFields, ne_eq, n1, n2, n3, not_false_eq_true, if_true, Sem.run_bind, p0, p1, p2, Result.andThen_ok, hb, hs]
  simp [hb, hs, p0, p1, p2, n1, n2, n3, Op.eqFields, eqVs, eqV], by kernel_rfl⟩
theorem eqVs_ratW (a : GRat) : eqVs [.bool a.neg, .string a.num, .string a.den] [.bool a.neg, .string a.num, .string a.den] = true := by simp [eqVs, eqV]
theorem aIntQ (n : Int) (h0 : -1000000 ≤ n) (h1 : n ≤ 1000000) : ACall Tryz.prog 49 [.one (.lit (.int .i64 n))] (.val (.agg (cRat (enc (n : Rat))))) := aInt n (by omega) (by omega)
def exCl : List GClaim := [⟨-1, 2, enc 60⟩, ⟨-1, 2, enc 40⟩]
noncomputable def exE (ags : List GAgr) : GEst := ⟨gZ, exCl, ags⟩
section
variable {P : Program} {e : En} {H : Hp} {nx : Nat} {σ : Nat → Value} {w : World}
theorem tiers_read (hW : RW e H nx σ w) {nt st na sa : Nat} {E E' : TypeId} {t1 t2 : List GPart} {v : Value} (hd : den (kx e H nx σ w) v (.own nt st 2 1)) (h1 : H nt = some ⟨st, E, 1, 2, [.sh 5 t1.length (flat cPart t1), .own na sa t2.length 5]⟩) (h2 : H na = some ⟨sa, E', 5, t2.length, flat cPart t2⟩) :
    den (kAll w) v (.sh 1 2 (flat cTier [t1, t2])) := by
  refine own_readT hW hd h1 rfl (by show (1 : Nat) ≠ 0; decide) fun xs hx => ?_
  obtain ⟨v1, vs1, rfl, d1, hx⟩ := denVs_cons hx
  obtain ⟨v2, vs2, rfl, d2, hx⟩ := denVs_cons hx
  cases vs2 with
  | nil => exact ⟨den_pure kx_all (by simp [pureC, flat_pure cPart_pure]) d1, own_readT hW d2 h2 rfl (by show (5 : Nat) ≠ 0; decide) (fun ys hy => denVs_pure kx_all (flat_pure cPart_pure _) hy), trivial⟩
  | cons v vs => exact hx.elim
theorem exE_read (hW : RW e H nx σ w) {n1 n2 nt st na sa sx sy : Nat} {E E' E1 E2 : TypeId} {t1 t2 : List GPart} {vs : List Value}
    (hd : denVs (kx e H nx σ w) vs [.lit (.bool false), .lit (.string bEmpty), .lit (.string bEmpty),   .own n1 sx 2 5, .own n2 sy 1 1]) (h1 : H nt = some ⟨st, E, 1, 2, [.sh 5 t1.length (flat cPart t1), .own na sa t2.length 5]⟩) (h2 : H na = some ⟨sa, E', 5, t2.length, flat cPart t2⟩)
    (h3 : H n1 = some ⟨sx, E1, 5, 2, flat cClaim exCl⟩) (h4 : H n2 = some ⟨sy, E2, 1, 1, [.own nt st 2 1]⟩) : denVs (kAll w) vs (cEst (exE [[t1, t2]])) := by
  obtain ⟨v1, vs1, rfl, d1, hd⟩ := denVs_cons hd
  obtain ⟨v2, vs2, rfl, d2, hd⟩ := denVs_cons hd
  obtain ⟨v3, vs3, rfl, d3, hd⟩ := denVs_cons hd
  obtain ⟨v4, vs4, rfl, d4, hd⟩ := denVs_cons hd
  obtain ⟨v5, vs5, rfl, d5, hd⟩ := denVs_cons hd
  have k4 := own_readT hW d4 h3 rfl (by show (5 : Nat) ≠ 0; decide) (fun ys hy => denVs_pure kx_all (flat_pure cClaim_pure _) hy)
  have k5 : den (kAll w) v5 (.sh 1 1 (flat cAgr [[t1, t2]])) := own_readT hW d5 h4 rfl (by show (1 : Nat) ≠ 0; decide) fun xs hx => by
    obtain ⟨u1, us1, rfl, f1, hx⟩ := denVs_cons hx
    cases us1 with
    | nil => exact ⟨tiers_read hW f1 h1 h2, trivial⟩
    | cons v vs => exact hx.elim
  cases vs5 with
  | nil => exact ⟨d1, d2, d3, k4, k5, trivial⟩
  | cons v vs => exact hd.elim
end
def F_lPy := And.intro zS (And.intro tf53 (And.intro tf54 (And.intro tf38 (And.intro tf18 (tf44)))))
set_option maxRecDepth 100000 in
set_option maxHeartbeats 4000000 in
theorem pays_A (e : GEst) (m : Int) (a b : Rat) (hm0 : -1000 ≤ m ∧ m ≤ 1000) (hI : eIn e 1 2 24 12) (h0 : wcSpec e = 0) (hmB : qB 2 (m : Rat)) (hmp : mPos (enc (m : Rat)) = (m : Rat)) (hn2 : e.claims.length = 2) (hcl : (wDel (wLay e) (m : Rat)).cl = [a, b]) : ACall Tryz.prog 80 [.agg (cEst e), .one (.lit (.int .i64 m)), .agg (cRat (enc a)), .agg (cRat (enc b))] (one (.bool true)) := by
 refine acall_of Tryz.func80 rfl (by decide) (N := 41) rfl (by simp) (R := [.tmp 8]) rfl fun en k0 => ?_
 refine awR [] [none, none, none, none] ?_
 simp only [(id F_lPy), seval, cRat, cEst]
 repeat refine ob ?_
 have hI0 := aIntQ m (by omega) (by omega)
 have hD := wDeliver_A e (enc (m : Rat)) 1 2 24 12 hI (sB_enc hmB)
 rw [hmp] at hD
 simp only [dlR, h0, if_true, hn2] at hD
 simp only [cRat] at hI0 hD
 refine awD (scq [1, 3] (.two 2 8 (.two 3 8 (scq [9, 11, 13, 15, 16, 19, 20, 23] .nil) (scq [6, 9, 11, 13, 15, 19, 20, 23] .nil)) (scq [4, 6, 9, 11, 13, 15, 19, 20, 23] .nil))) [none, none, none, none, none, none, none, none, none, none, none, none] ?_
 simp only [(id F_lPy), seval, cRat, cEst, flat_pure cClaim_pure, flat_pure cAgr_pure, cEst, flat_pure cQ_pure]
 repeat refine ob ?_
 refine ⟨?_, ?_⟩
 ·
  repeat refine ob ?_
  refine ⟨_, hI0, (by first | rfl | simp [allA, pure1, pureCs, pureC, A1.cells, flat_pure cQ_pure]), ?_⟩
  try unfold Later
  try simp only [(id F_lPy), seval, cRat, cEst, flat_pure cClaim_pure, flat_pure cAgr_pure, cEst, flat_pure cQ_pure]
  repeat refine ob ?_
  refine ⟨?_, ?_⟩
  ·
   repeat refine ob ?_
   refine ⟨_, hD, (by first | rfl | simp [allA, pure1, pureCs, pureC, A1.cells, flat_pure cQ_pure]), ?_⟩
   try unfold Later
   try simp only [(id F_lPy), seval, cRat, cEst, flat_pure cClaim_pure, flat_pure cAgr_pure, cEst, flat_pure cQ_pure]
   repeat refine ob ?_
   have q1 := EqOK_ratW (enc a)
   have q2 := eqVs_ratW (enc a)
   have q3 := EqOK_ratW (enc b)
   have q4 := eqVs_ratW (enc b)
   have hfl : flat cQ [a, b] = cRat (enc a) ++ (cRat (enc b) ++ []) := rfl
   simp only [cRat, List.cons_append, List.nil_append] at hfl
   refine awD (scq [1, 3, 5, 7, 9, 11, 13, 15, 17, 19, 21, 23, 25, 27, 29, 31, 33, 35, 37, 39, 41, 43] .nil) [none, none, none, some (22, true), some (22, true), some (22, true), none, none, some (27, true), some (27, true), some (27, true), some (27, true), some (27, true), none, none, some (34, true), some (34, true), some (34, true), some (34, true), some (34, true), none, none] ?_
   simp only [(id F_lPy), seval, cRat, cEst, hcl, hfl, q1, q2, q3, q4]
   repeat refine ob ?_
   refine awX ?_
   simp only [(id F_lPy), seval]
   try simp
  repeat refine ob ?_
  refine ⟨_, hD, (by first | rfl | simp [allA, pure1, pureCs, pureC, A1.cells, flat_pure cQ_pure]), ?_⟩
  try unfold Later
  try simp only [(id F_lPy), seval, cRat, cEst, flat_pure cClaim_pure, flat_pure cAgr_pure, cEst, flat_pure cQ_pure]
  repeat refine ob ?_
  have q1 := EqOK_ratW (enc a)
  have q2 := eqVs_ratW (enc a)
  have q3 := EqOK_ratW (enc b)
  have q4 := eqVs_ratW (enc b)
  have hfl : flat cQ [a, b] = cRat (enc a) ++ (cRat (enc b) ++ []) := rfl
  simp only [cRat, List.cons_append, List.nil_append] at hfl
  refine awD (scq [1, 3, 5, 7, 9, 11, 13, 15, 17, 19, 21, 23, 25, 27, 29, 31, 33, 35, 37, 39, 41, 43] .nil) [none, none, none, some (22, true), some (22, true), some (22, true), none, none, some (27, true), some (27, true), some (27, true), some (27, true), some (27, true), none, none, some (34, true), some (34, true), some (34, true), some (34, true), some (34, true), none, none] ?_
  simp only [(id F_lPy), seval, cRat, cEst, hcl, hfl, q1, q2, q3, q4]
  repeat refine ob ?_
  refine awX ?_
  simp only [(id F_lPy), seval]
  try simp
 repeat refine ob ?_
 refine ⟨_, hI0, (by first | rfl | simp [allA, pure1, pureCs, pureC, A1.cells, flat_pure cQ_pure]), ?_⟩
 try unfold Later
 try simp only [(id F_lPy), seval, cRat, cEst, flat_pure cClaim_pure, flat_pure cAgr_pure, cEst, flat_pure cQ_pure]
 repeat refine ob ?_
 refine ⟨_, hD, (by first | rfl | simp [allA, pure1, pureCs, pureC, A1.cells, flat_pure cQ_pure]), ?_⟩
 try unfold Later
 try simp only [(id F_lPy), seval, cRat, cEst, flat_pure cClaim_pure, flat_pure cAgr_pure, cEst, flat_pure cQ_pure]
 repeat refine ob ?_
 have q1 := EqOK_ratW (enc a)
 have q2 := eqVs_ratW (enc a)
 have q3 := EqOK_ratW (enc b)
 have q4 := eqVs_ratW (enc b)
 have hfl : flat cQ [a, b] = cRat (enc a) ++ (cRat (enc b) ++ []) := rfl
 simp only [cRat, List.cons_append, List.nil_append] at hfl
 refine awD (scq [1, 3, 5, 7, 9, 11, 13, 15, 17, 19, 21, 23, 25, 27, 29, 31, 33, 35, 37, 39, 41, 43] .nil) [none, none, none, some (22, true), some (22, true), some (22, true), none, none, some (27, true), some (27, true), some (27, true), some (27, true), some (27, true), none, none, some (34, true), some (34, true), some (34, true), some (34, true), some (34, true), none, none] ?_
 simp only [(id F_lPy), seval, cRat, cEst, hcl, hfl, q1, q2, q3, q4]
 repeat refine ob ?_
 refine awX ?_
 simp only [(id F_lPy), seval]
 try simp
theorem two_nil {κ : Kx} {vs : List Value} (h : denVs κ vs [.lit (.bool false), .lit (.string bEmpty), .lit (.string bEmpty), .sh 5 2 [.lit (.int .i64 (-1)), .lit (.int .i64 2), .lit (.bool (enc ((60 : Int) : Rat)).neg), .lit (.string (enc ((60 : Int) : Rat)).num), .lit (.string (enc ((60 : Int) : Rat)).den), .lit (.int .i64 (-1)), .lit (.int .i64 2), .lit (.bool (enc ((40 : Int) : Rat)).neg), .lit (.string (enc ((40 : Int) : Rat)).num), .lit (.string (enc ((40 : Int) : Rat)).den)], .lit (.slice none 0 0)]) : denVs κ vs (cEst (exE [])) := by
  obtain ⟨v1, vs1, rfl, d1, h⟩ := denVs_cons h
  obtain ⟨v2, vs2, rfl, d2, h⟩ := denVs_cons h
  obtain ⟨v3, vs3, rfl, d3, h⟩ := denVs_cons h
  obtain ⟨v4, vs4, rfl, d4, h⟩ := denVs_cons h
  obtain ⟨v5, vs5, rfl, d5, h⟩ := denVs_cons h
  exact ⟨d1, d2, d3, d4, den_nilsh 1 d5, h⟩
def F_lTw := And.intro zS (And.intro tf2 (And.intro tf23 (And.intro tf24 (And.intro tf30 (And.intro tf31 (And.intro tf38 (And.intro tf85 (And.intro tf86 (And.intro tf87 (And.intro tf35 (And.intro tf36 (tf88))))))))))))
set_option maxRecDepth 100000 in
set_option maxHeartbeats 4000000 in
theorem two_A : ACall Tryz.prog 81 [.one (.lit (.slice none 0 0))] (.val (.agg (cEst (exE [])))) := by
 refine acall_of Tryz.func81 rfl (by decide) (N := 18) rfl (by simp) (R := [.cell 2 36]) rfl fun en k0 => ?_
 refine awR [] [none] ?_
 simp only [(id F_lTw), seval, cRat]
 repeat refine ob ?_
 have h60 := aIntQ 60 (by decide) (by decide)
 have h40 := aIntQ 40 (by decide) (by decide)
 simp only [cRat] at h60 h40
 refine awR [] [none, none, none, none, none, none, none, none] ?_
 simp only [(id F_lTw), seval, cRat]
 repeat refine ob ?_
 refine ⟨_, h60, rfl, ?_⟩
 try unfold Later
 try simp only [(id F_lTw), seval, cRat]
 repeat refine ob ?_
 refine ⟨_, h40, rfl, ?_⟩
 try unfold Later
 try simp only [(id F_lTw), seval, cRat]
 repeat refine ob ?_
 refine awR [] [none, none, none] ?_
 simp only [(id F_lTw), seval, cRat]
 repeat refine ob ?_
 refine awF ?_
 refine awK ?_
 simp only [(id F_lTw), seval]
 refine awp_pubc 8 3 3 (by rfl) (by rfl) (by rfl) (by decide) (by show (5 : Nat) ≠ 0; decide) (by show (5 : Nat) ≠ 0; decide) rfl ?_
 refine awp_wk (wk_cells 3 (cEst (exE [])) (by rfl) (by show (5 : Nat) ≠ 0; decide) (by rfl) (fun κ vs h => two_nil h)) ?_
 simp only [(id F_lTw), seval]
 refine awR [] [none, none] ?_
 simp only [(id F_lTw), seval, cRat, cEst, flat_pure cClaim_pure, flat_pure cAgr_pure]
 repeat refine ob ?_
 refine awX ?_
 simp only [(id F_lTw), seval, flat_pure cClaim_pure, flat_pure cAgr_pure]
 try simp [cEst, flat_pure cClaim_pure, flat_pure cAgr_pure]
def F_lTv := And.intro zS (And.intro tf2 (And.intro tf23 (And.intro tf24 (And.intro tf30 (And.intro tf31 (And.intro tf38 (And.intro tf85 (And.intro tf86 (And.intro tf87 (And.intro tf35 (And.intro tf36 (tf88))))))))))))
set_option maxRecDepth 100000 in
set_option maxHeartbeats 4000000 in
theorem two_I (H : Hp) (ny nt st : Nat) (hnt : ∃ B, H nt = some B ∧ B.st = st) (hbH : ∀ y B, H y = some B → y < 700) : ACallI Tryz.prog 81 [.one (.own nt st 2 1)] H ny
  (fun res H' _ => ∃ sx sy s2 cs2, res = .val (.agg [.lit (.bool false), .lit (.string bEmpty), .lit (.string bEmpty), .own 708 sx 2 5, .own 715 sy 1 1]) ∧ H' = mkOn H [(702, ⟨s2, 36, 5, 1, cs2⟩), (708, ⟨sx, 38, 5, 2, flat cClaim exCl⟩), (715, ⟨sy, 50, 1, 1, [.own nt st 2 1]⟩)]) := by
 refine acallI_of 700 Tryz.func81 rfl (by decide) (N := 18) rfl (by simp) (Rl := [.cell 2 36]) rfl fun en k0 => ?_
 refine awR [] [none] ?_
 simp only [(id F_lTv), seval, cRat]
 repeat refine ob ?_
 have h60 := aIntQ 60 (by decide) (by decide)
 have h40 := aIntQ 40 (by decide) (by decide)
 simp only [cRat] at h60 h40
 refine awR [] [none, none, none, none, none, none, none, none] ?_
 simp only [(id F_lTv), seval, cRat]
 repeat refine ob ?_
 refine ⟨_, h60, rfl, ?_⟩
 try unfold Later
 try simp only [(id F_lTv), seval, cRat]
 repeat refine ob ?_
 refine ⟨_, h40, rfl, ?_⟩
 try unfold Later
 try simp only [(id F_lTv), seval, cRat]
 repeat refine ob ?_
 refine awR [] [none, none, none] ?_
 simp only [(id F_lTv), seval, cRat]
 repeat refine ob ?_
 refine ⟨by obtain ⟨B, hB, hs⟩ := hnt; have := hbH nt B hB; exact ⟨B, by (repeat rw [if_neg (by omega)]); exact hB, hs⟩, ?_⟩
 refine awT ?_
 refine awR [] [none, none, none, none, none] ?_
 simp only [(id F_lTv), seval, cRat]
 repeat refine ob ?_
 refine awR [] [none, none] ?_
 simp only [(id F_lTv), seval, cRat]
 repeat refine ob ?_
 refine awp_on H [2] [702, 708, 715] (by intro y B h; right; have h9 := hbH y B h; simp only [up_apply]; (repeat rw [if_neg (by omega)]); exact h) ?_
 simp only [(id F_lTv), seval]
 refine awX ?_
 simp only [(id F_lTv), seval]
 exact ⟨_, _, _, _, rfl, rfl⟩
set_option maxRecDepth 100000 in
set_option maxHeartbeats 4000000 in
theorem two_J (H : Hp) (ny nt st : Nat) (hnt : ∃ B, H nt = some B ∧ B.st = st) (hbH : ∀ y B, H y = some B → y < 800) : ACallI Tryz.prog 81 [.one (.own nt st 2 1)] H ny
  (fun res H' _ => ∃ sx sy s2 cs2, res = .val (.agg [.lit (.bool false), .lit (.string bEmpty), .lit (.string bEmpty), .own 808 sx 2 5, .own 815 sy 1 1]) ∧ H' = mkOn H [(802, ⟨s2, 36, 5, 1, cs2⟩), (808, ⟨sx, 38, 5, 2, flat cClaim exCl⟩), (815, ⟨sy, 50, 1, 1, [.own nt st 2 1]⟩)]) := by
 refine acallI_of 800 Tryz.func81 rfl (by decide) (N := 18) rfl (by simp) (Rl := [.cell 2 36]) rfl fun en k0 => ?_
 refine awR [] [none] ?_
 simp only [(id F_lTv), seval, cRat]
 repeat refine ob ?_
 have h60 := aIntQ 60 (by decide) (by decide)
 have h40 := aIntQ 40 (by decide) (by decide)
 simp only [cRat] at h60 h40
 refine awR [] [none, none, none, none, none, none, none, none] ?_
 simp only [(id F_lTv), seval, cRat]
 repeat refine ob ?_
 refine ⟨_, h60, rfl, ?_⟩
 try unfold Later
 try simp only [(id F_lTv), seval, cRat]
 repeat refine ob ?_
 refine ⟨_, h40, rfl, ?_⟩
 try unfold Later
 try simp only [(id F_lTv), seval, cRat]
 repeat refine ob ?_
 refine awR [] [none, none, none] ?_
 simp only [(id F_lTv), seval, cRat]
 repeat refine ob ?_
 refine ⟨by obtain ⟨B, hB, hs⟩ := hnt; have := hbH nt B hB; exact ⟨B, by (repeat rw [if_neg (by omega)]); exact hB, hs⟩, ?_⟩
 refine awT ?_
 refine awR [] [none, none, none, none, none] ?_
 simp only [(id F_lTv), seval, cRat]
 repeat refine ob ?_
 refine awR [] [none, none] ?_
 simp only [(id F_lTv), seval, cRat]
 repeat refine ob ?_
 refine awp_on H [2] [802, 808, 815] (by intro y B h; right; have h9 := hbH y B h; simp only [up_apply]; (repeat rw [if_neg (by omega)]); exact h) ?_
 simp only [(id F_lTv), seval]
 refine awX ?_
 simp only [(id F_lTv), seval]
 exact ⟨_, _, _, _, rfl, rfl⟩
end Go.Proofs.YtmbahnmhicdjfaaGreatDoor
end
