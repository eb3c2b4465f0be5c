/- The waterfall's own check of its examples; walked by the abstract machine. -/
import Derived.Test.YtokmkopihhnggaaGreatDoorWl8M
import Derived.Test.YtokmkopihhnggaaGreatDoorWp3M
import Derived.Test.YtokmkopihhnggaaGreatDoorRw6M
import Derived.Test.YtokmkopihhnggaaGreatDoorAbBM
set_option linter.unusedVariables false
set_option linter.unusedSimpArgs false
set_option linter.defProp false
set_option linter.unnecessarySimpa false
set_option linter.unusedSectionVars false
section
/- The waterfall's own check of its examples; walked by the abstract machine. -/
namespace Go.Proofs.YtokmkopihhnggaaGreatDoor
open Go Go.RowKit
theorem rat_fieldsW : (Tryz.prog.fieldsOf 32).toList = [⟨"Neg", 4, 0, false, "", "", 0⟩, ⟨"Num", 9, 1, false, "", "", 8⟩, ⟨"Den", 9, 2, false, "", "", 24⟩] := by kernel_rfl
theorem bool_oneTW : ldT Tryz.prog 4 = some (false, 1) := by kernel_rfl
theorem string_oneTW : ldT Tryz.prog 9 = some (false, 1) := by kernel_rfl
theorem part_boolW (cs : Array Value) (i : Nat) (v : Value) (h : cs[i]? = some v) (w : World) : (part 4 cs i).run Tryz.prog w = .ok v w := by
  simp [part, (ldT_one bool_oneTW w).1, h]
theorem part_strW (cs : Array Value) (i : Nat) (v : Value) (h : cs[i]? = some v) (w : World) : (part 9 cs i).run Tryz.prog w = .ok v w := by
  simp [part, (ldT_one string_oneTW w).1, h]
theorem EqOK_ratW (a : GRat) : EqOK Tryz.prog 32 [.bool a.neg, .string a.num, .string a.den] [.bool a.neg, .string a.num, .string a.den] := fun w => ⟨by
  obtain ⟨x, y, z⟩ := a
  have h2 := run_equalIn_agg (P := Tryz.prog) w 9999 32 #[.bool x, .string y, .string z] #[.bool x, .string y, .string z] (by kernel_rfl) (by kernel_rfl)
  have h3 : (Op.equal 32 (.agg #[.bool x, .string y, .string z]) (.agg #[.bool x, .string y, .string z])).run Tryz.prog w = (Op.equalIn (9999 + 1) 32 (.agg #[.bool x, .string y, .string z]) (.agg #[.bool x, .string y, .string z])).run Tryz.prog w := rfl
  have hb := fun (a b : Bool) => run_equalIn_bool' (P := Tryz.prog) w 9998 4 a b (by kernel_rfl)
  have hs := fun (a b : ByteArray) => run_equalIn_string (P := Tryz.prog) w 9998 9 a b (by kernel_rfl)
  have p0 := part_boolW #[.bool x, .string y, .string z] 0 _ rfl w
  have p1 := part_strW #[.bool x, .string y, .string z] 1 _ rfl w
  have p2 := part_strW #[.bool x, .string y, .string z] 2 _ rfl w
  show (Op.equal 32 (.agg #[.bool x, .string y, .string z]) (.agg #[.bool x, .string y, .string z])).run Tryz.prog w = _
  rw [h3, h2, rat_fieldsW]
  have n1 : ¬ "Neg" = "_" := by decide
  have n2 : ¬ "Num" = "_" := by decide
  have n3 : ¬ "Den" = "_" := by decide
  simp only [Op.eqFields, ne_eq, n1, n2, n3, not_false_eq_true, if_true, Sem.run_bind, p0, p1, p2, Result.andThen_ok, hb, hs]
  simp [hb, hs, p0, p1, p2, n1, n2, n3, Op.eqFields, eqVs, eqV], by kernel_rfl⟩
theorem eqVs_ratW (a : GRat) : eqVs [.bool a.neg, .string a.num, .string a.den] [.bool a.neg, .string a.num, .string a.den] = true := by simp [eqVs, eqV]
theorem aIntQ (n : Int) (h0 : -1000000 ≤ n) (h1 : n ≤ 1000000) : ACall Tryz.prog 52 [.one (.lit (.int .i64 n))] (.val (.agg (cRat (enc (n : Rat))))) := aInt n (by omega) (by omega)
def exCl : List GClaim := [⟨-1, 2, enc 60⟩, ⟨-1, 2, enc 40⟩]
noncomputable def exE (ags : List GAgr) : GEst := ⟨gZ, exCl, ags⟩
section
variable {P : Program} {e : En} {H : Hp} {nx : Nat} {σ : Nat → Value} {w : World}
theorem tiers_read (hW : RW e H nx σ w) {nt st na sa : Nat} {E E' : TypeId} {t1 t2 : List GPart} {v : Value} (hd : den (kx e H nx σ w) v (.own nt st 2 1)) (h1 : H nt = some ⟨st, E, 1, 2, [.sh 5 t1.length (flat cPart t1), .own na sa t2.length 5]⟩) (h2 : H na = some ⟨sa, E', 5, t2.length, flat cPart t2⟩) :
    den (kAll w) v (.sh 1 2 (flat cTier [t1, t2])) := by
  refine own_readT hW hd h1 rfl (by show (1 : Nat) ≠ 0; decide) fun xs hx => ?_
  obtain ⟨v1, vs1, rfl, d1, hx⟩ := denVs_cons hx
  obtain ⟨v2, vs2, rfl, d2, hx⟩ := denVs_cons hx
  cases vs2 with
  | nil => exact ⟨den_pure kx_all (by simp [pureC, flat_pure cPart_pure]) d1, own_readT hW d2 h2 rfl (by show (5 : Nat) ≠ 0; decide) (fun ys hy => denVs_pure kx_all (flat_pure cPart_pure _) hy), trivial⟩
  | cons v vs => exact hx.elim
theorem exE_read (hW : RW e H nx σ w) {n1 n2 nt st na sa sx sy : Nat} {E E' E1 E2 : TypeId} {t1 t2 : List GPart} {vs : List Value}
    (hd : denVs (kx e H nx σ w) vs [.lit (.bool false), .lit (.string bEmpty), .lit (.string bEmpty),   .own n1 sx 2 5, .own n2 sy 1 1]) (h1 : H nt = some ⟨st, E, 1, 2, [.sh 5 t1.length (flat cPart t1), .own na sa t2.length 5]⟩) (h2 : H na = some ⟨sa, E', 5, t2.length, flat cPart t2⟩)
    (h3 : H n1 = some ⟨sx, E1, 5, 2, flat cClaim exCl⟩) (h4 : H n2 = some ⟨sy, E2, 1, 1, [.own nt st 2 1]⟩) : denVs (kAll w) vs (cEst (exE [[t1, t2]])) := by
  obtain ⟨v1, vs1, rfl, d1, hd⟩ := denVs_cons hd
  obtain ⟨v2, vs2, rfl, d2, hd⟩ := denVs_cons hd
  obtain ⟨v3, vs3, rfl, d3, hd⟩ := denVs_cons hd
  obtain ⟨v4, vs4, rfl, d4, hd⟩ := denVs_cons hd
  obtain ⟨v5, vs5, rfl, d5, hd⟩ := denVs_cons hd
  have k4 := own_readT hW d4 h3 rfl (by show (5 : Nat) ≠ 0; decide) (fun ys hy => denVs_pure kx_all (flat_pure cClaim_pure _) hy)
  have k5 : den (kAll w) v5 (.sh 1 1 (flat cAgr [[t1, t2]])) := own_readT hW d5 h4 rfl (by show (1 : Nat) ≠ 0; decide) fun xs hx => by
    obtain ⟨u1, us1, rfl, f1, hx⟩ := denVs_cons hx
    cases us1 with
    | nil => exact ⟨tiers_read hW f1 h1 h2, trivial⟩
    | cons v vs => exact hx.elim
  cases vs5 with
  | nil => exact ⟨d1, d2, d3, k4, k5, trivial⟩
  | cons v vs => exact hd.elim
end
def F_lPy := And.intro zS (And.intro tf50 (And.intro tf51 (And.intro tf75 (And.intro tf18 (tf39)))))
set_option maxRecDepth 100000 in
set_option maxHeartbeats 4000000 in
theorem pays_A (e : GEst) (m : Int) (a b : Rat) (hm0 : -1000 ≤ m ∧ m ≤ 1000) (hI : eIn e 1 2 24 12) (h0 : wcSpec e = 0) (hmB : qB 2 (m : Rat)) (hmp : mPos (enc (m : Rat)) = (m : Rat)) (hn2 : e.claims.length = 2) (hcl : (wDel (wLay e) (m : Rat)).cl = [a, b]) : ACall Tryz.prog 73 [.agg (cEst e), .one (.lit (.int .i64 m)), .agg (cRat (enc a)), .agg (cRat (enc b))] (one (.bool true)) := by
 refine acall_of Tryz.func73 rfl (by decide) (N := 41) rfl (by simp) (R := [.tmp 8]) rfl fun en k0 => ?_
 refine awR [] [none, none, none, none] ?_
 simp only [(id F_lPy), seval, cRat, cEst]
 repeat refine ob ?_
 have hI0 := aIntQ m (by omega) (by omega)
 have hD := wDeliver_A e (enc (m : Rat)) 1 2 24 12 hI (sB_enc hmB)
 rw [hmp] at hD
 simp only [dlR, h0, if_true, hn2] at hD
 simp only [cRat] at hI0 hD
 refine awD (scq [1, 3] (.two 2 8 (.two 3 8 (scq [9, 11, 13, 15, 16, 19, 20, 23] .nil) (scq [6, 9, 11, 13, 15, 19, 20, 23] .nil)) (scq [4, 6, 9, 11, 13, 15, 19, 20, 23] .nil))) [none, none, none, none, none, none, none, none, none, none, none, none] ?_
 simp only [(id F_lPy), seval, cRat, cEst, flat_pure cClaim_pure, flat_pure cAgr_pure, cEst, flat_pure cQ_pure]
 repeat refine ob ?_
 refine ⟨?_, ?_⟩
 ·
  repeat refine ob ?_
  refine ⟨_, hI0, (by first | rfl | simp [allA, pure1, pureCs, pureC, A1.cells, flat_pure cQ_pure]), ?_⟩
  try unfold Later
  try simp only [(id F_lPy), seval, cRat, cEst, flat_pure cClaim_pure, flat_pure cAgr_pure, cEst, flat_pure cQ_pure]
  repeat refine ob ?_
  refine ⟨?_, ?_⟩
  ·
   repeat refine ob ?_
   refine ⟨_, hD, (by first | rfl | simp [allA, pure1, pureCs, pureC, A1.cells, flat_pure cQ_pure]), ?_⟩
   try unfold Later
   try simp only [(id F_lPy), seval, cRat, cEst, flat_pure cClaim_pure, flat_pure cAgr_pure, cEst, flat_pure cQ_pure]
   repeat refine ob ?_
   have q1 := EqOK_ratW (enc a)
   have q2 := eqVs_ratW (enc a)
   have q3 := EqOK_ratW (enc b)
   have q4 := eqVs_ratW (enc b)
   have hfl : flat cQ [a, b] = cRat (enc a) ++ (cRat (enc b) ++ []) := rfl
   simp only [cRat, List.cons_append, List.nil_append] at hfl
   refine awD (scq [1, 3, 5, 7, 9, 11, 13, 15, 17, 19, 21, 23, 25, 27, 29, 31, 33, 35, 37, 39, 41, 43] .nil) [none, none, none, some (22, true), some (22, true), some (22, true), none, none, some (27, true), some (27, true), some (27, true), some (27, true), some (27, true), none, none, some (34, true), some (34, true), some (34, true), some (34, true), some (34, true), none, none] ?_
   simp only [(id F_lPy), seval, cRat, cEst, hcl, hfl, q1, q2, q3, q4]
   repeat refine ob ?_
   refine awX ?_
   simp only [(id F_lPy), seval]
   try simp
  repeat refine ob ?_
  refine ⟨_, hD, (by first | rfl | simp [allA, pure1, pureCs, pureC, A1.cells, flat_pure cQ_pure]), ?_⟩
  try unfold Later
  try simp only [(id F_lPy), seval, cRat, cEst, flat_pure cClaim_pure, flat_pure cAgr_pure, cEst, flat_pure cQ_pure]
  repeat refine ob ?_
  have q1 := EqOK_ratW (enc a)
  have q2 := eqVs_ratW (enc a)
  have q3 := EqOK_ratW (enc b)
  have q4 := eqVs_ratW (enc b)
  have hfl : flat cQ [a, b] = cRat (enc a) ++ (cRat (enc b) ++ []) := rfl
  simp only [cRat, List.cons_append, List.nil_append] at hfl
  refine awD (scq [1, 3, 5, 7, 9, 11, 13, 15, 17, 19, 21, 23, 25, 27, 29, 31, 33, 35, 37, 39, 41, 43] .nil) [none, none, none, some (22, true), some (22, true), some (22, true), none, none, some (27, true), some (27, true), some (27, true), some (27, true), some (27, true), none, none, some (34, true), some (34, true), some (34, true), some (34, true), some (34, true), none, none] ?_
  simp only [(id F_lPy), seval, cRat, cEst, hcl, hfl, q1, q2, q3, q4]
  repeat refine ob ?_
  refine awX ?_
  simp only [(id F_lPy), seval]
  try simp
 repeat refine ob ?_
 refine ⟨_, hI0, (by first | rfl | simp [allA, pure1, pureCs, pureC, A1.cells, flat_pure cQ_pure]), ?_⟩
 try unfold Later
 try simp only [(id F_lPy), seval, cRat, cEst, flat_pure cClaim_pure, flat_pure cAgr_pure, cEst, flat_pure cQ_pure]
 repeat refine ob ?_
 refine ⟨_, hD, (by first | rfl | simp [allA, pure1, pureCs, pureC, A1.cells, flat_pure cQ_pure]), ?_⟩
 try unfold Later
 try simp only [(id F_lPy), seval, cRat, cEst, flat_pure cClaim_pure, flat_pure cAgr_pure, cEst, flat_pure cQ_pure]
 repeat refine ob ?_
 have q1 := EqOK_ratW (enc a)
 have q2 := eqVs_ratW (enc a)
 have q3 := EqOK_ratW (enc b)
 have q4 := eqVs_ratW (enc b)
 have hfl : flat cQ [a, b] = cRat (enc a) ++ (cRat (enc b) ++ []) := rfl
 simp only [cRat, List.cons_append, List.nil_append] at hfl
 refine awD (scq [1, 3, 5, 7, 9, 11, 13, 15, 17, 19, 21, 23, 25, 27, 29, 31, 33, 35, 37, 39, 41, 43] .nil) [none, none, none, some (22, true), some (22, true), some (22, true), none, none, some (27, true), some (27, true), some (27, true), some (27, true), some (27, true), none, none, some (34, true), some (34, true), some (34, true), some (34, true), some (34, true), none, none] ?_
 simp only [(id F_lPy), seval, cRat, cEst, hcl, hfl, q1, q2, q3, q4]
 repeat refine ob ?_
 refine awX ?_
 simp only [(id F_lPy), seval]
 try simp
theorem two_nil {κ : Kx} {vs : List Value} (h : denVs κ vs [.lit (.bool false), .lit (.string bEmpty), .lit (.string bEmpty), .sh 5 2 [.lit (.int .i64 (-1)), .lit (.int .i64 2), .lit (.bool (enc ((60 : Int) : Rat)).neg), .lit (.string (enc ((60 : Int) : Rat)).num), .lit (.string (enc ((60 : Int) : Rat)).den), .lit (.int .i64 (-1)), .lit (.int .i64 2), .lit (.bool (enc ((40 : Int) : Rat)).neg), .lit (.string (enc ((40 : Int) : Rat)).num), .lit (.string (enc ((40 : Int) : Rat)).den)], .lit (.slice none 0 0)]) : denVs κ vs (cEst (exE [])) := by
  obtain ⟨v1, vs1, rfl, d1, h⟩ := denVs_cons h
  obtain ⟨v2, vs2, rfl, d2, h⟩ := denVs_cons h
  obtain ⟨v3, vs3, rfl, d3, h⟩ := denVs_cons h
  obtain ⟨v4, vs4, rfl, d4, h⟩ := denVs_cons h
  obtain ⟨v5, vs5, rfl, d5, h⟩ := denVs_cons h
  exact ⟨d1, d2, d3, d4, den_nilsh 1 d5, h⟩
def F_lTw := And.intro zS (And.intro tf2 (And.intro tf23 (And.intro tf24 (And.intro tf30 (And.intro tf31 (And.intro tf75 (And.intro tf83 (And.intro tf84 (And.intro tf85 (And.intro tf35 (And.intro tf36 (tf86))))))))))))
set_option maxRecDepth 100000 in
set_option maxHeartbeats 4000000 in
theorem two_A : ACall Tryz.prog 74 [.one (.lit (.slice none 0 0))] (.val (.agg (cEst (exE [])))) := by
 refine acall_of Tryz.func74 rfl (by decide) (N := 18) rfl (by simp) (R := [.cell 2 36]) rfl fun en k0 => ?_
 refine awR [] [none] ?_
 simp only [(id F_lTw), seval, cRat]
 repeat refine ob ?_
 have h60 := aIntQ 60 (by decide) (by decide)
 have h40 := aIntQ 40 (by decide) (by decide)
 simp only [cRat] at h60 h40
 refine awR [] [none, none, none, none, none, none, none, none] ?_
 simp only [(id F_lTw), seval, cRat]
 repeat refine ob ?_
 refine ⟨_, h60, rfl, ?_⟩
 try unfold Later
 try simp only [(id F_lTw), seval, cRat]
 repeat refine ob ?_
 refine ⟨_, h40, rfl, ?_⟩
 try unfold Later
 try simp only [(id F_lTw), seval, cRat]
 repeat refine ob ?_
 refine awR [] [none, none, none] ?_
 simp only [(id F_lTw), seval, cRat]
 repeat refine ob ?_
 refine awF ?_
 refine awK ?_
 simp only [(id F_lTw), seval]
 refine awp_pubc 8 3 3 (by rfl) (by rfl) (by rfl) (by decide) (by show (5 : Nat) ≠ 0; decide) (by show (5 : Nat) ≠ 0; decide) rfl ?_
 refine awp_wk (wk_cells 3 (cEst (exE [])) (by rfl) (by show (5 : Nat) ≠ 0; decide) (by rfl) (fun κ vs h => two_nil h)) ?_
 simp only [(id F_lTw), seval]
 refine awR [] [none, none] ?_
 simp only [(id F_lTw), seval, cRat, cEst, flat_pure cClaim_pure, flat_pure cAgr_pure]
 repeat refine ob ?_
 refine awX ?_
 simp only [(id F_lTw), seval, flat_pure cClaim_pure, flat_pure cAgr_pure]
 try simp [cEst, flat_pure cClaim_pure, flat_pure cAgr_pure]
def F_lTv := And.intro zS (And.intro tf2 (And.intro tf23 (And.intro tf24 (And.intro tf30 (And.intro tf31 (And.intro tf75 (And.intro tf83 (And.intro tf84 (And.intro tf85 (And.intro tf35 (And.intro tf36 (tf86))))))))))))
set_option maxRecDepth 100000 in
set_option maxHeartbeats 4000000 in
theorem two_I (H : Hp) (ny nt st : Nat) (hnt : ∃ B, H nt = some B ∧ B.st = st) (hbH : ∀ y B, H y = some B → y < 700) : ACallI Tryz.prog 74 [.one (.own nt st 2 1)] H ny
  (fun res H' _ => ∃ sx sy s2 cs2, res = .val (.agg [.lit (.bool false), .lit (.string bEmpty), .lit (.string bEmpty), .own 708 sx 2 5, .own 715 sy 1 1]) ∧ H' = mkOn H [(702, ⟨s2, 36, 5, 1, cs2⟩), (708, ⟨sx, 38, 5, 2, flat cClaim exCl⟩), (715, ⟨sy, 50, 1, 1, [.own nt st 2 1]⟩)]) := by
 refine acallI_of 700 Tryz.func74 rfl (by decide) (N := 18) rfl (by simp) (Rl := [.cell 2 36]) rfl fun en k0 => ?_
 refine awR [] [none] ?_
 simp only [(id F_lTv), seval, cRat]
 repeat refine ob ?_
 have h60 := aIntQ 60 (by decide) (by decide)
 have h40 := aIntQ 40 (by decide) (by decide)
 simp only [cRat] at h60 h40
 refine awR [] [none, none, none, none, none, none, none, none] ?_
 simp only [(id F_lTv), seval, cRat]
 repeat refine ob ?_
 refine ⟨_, h60, rfl, ?_⟩
 try unfold Later
 try simp only [(id F_lTv), seval, cRat]
 repeat refine ob ?_
 refine ⟨_, h40, rfl, ?_⟩
 try unfold Later
 try simp only [(id F_lTv), seval, cRat]
 repeat refine ob ?_
 refine awR [] [none, none, none] ?_
 simp only [(id F_lTv), seval, cRat]
 repeat refine ob ?_
 refine ⟨by obtain ⟨B, hB, hs⟩ := hnt; have := hbH nt B hB; exact ⟨B, by (repeat rw [if_neg (by omega)]); exact hB, hs⟩, ?_⟩
 refine awT ?_
 refine awR [] [none, none, none, none, none] ?_
 simp only [(id F_lTv), seval, cRat]
 repeat refine ob ?_
 refine awR [] [none, none] ?_
 simp only [(id F_lTv), seval, cRat]
 repeat refine ob ?_
 refine awp_on H [2] [702, 708, 715] (by intro y B h; right; have h9 := hbH y B h; simp only [up_apply]; (repeat rw [if_neg (by omega)]); exact h) ?_
 simp only [(id F_lTv), seval]
 refine awX ?_
 simp only [(id F_lTv), seval]
 exact ⟨_, _, _, _, rfl, rfl⟩
set_option maxRecDepth 100000 in
set_option maxHeartbeats 4000000 in
theorem two_J (H : Hp) (ny nt st : Nat) (hnt : ∃ B, H nt = some B ∧ B.st = st) (hbH : ∀ y B, H y = some B → y < 800) : ACallI Tryz.prog 74 [.one (.own nt st 2 1)] H ny
  (fun res H' _ => ∃ sx sy s2 cs2, res = .val (.agg [.lit (.bool false), .lit (.string bEmpty), .lit (.string bEmpty), .own 808 sx 2 5, .own 815 sy 1 1]) ∧ H' = mkOn H [(802, ⟨s2, 36, 5, 1, cs2⟩), (808, ⟨sx, 38, 5, 2, flat cClaim exCl⟩), (815, ⟨sy, 50, 1, 1, [.own nt st 2 1]⟩)]) := by
 refine acallI_of 800 Tryz.func74 rfl (by decide) (N := 18) rfl (by simp) (Rl := [.cell 2 36]) rfl fun en k0 => ?_
 refine awR [] [none] ?_
 simp only [(id F_lTv), seval, cRat]
 repeat refine ob ?_
 have h60 := aIntQ 60 (by decide) (by decide)
 have h40 := aIntQ 40 (by decide) (by decide)
 simp only [cRat] at h60 h40
 refine awR [] [none, none, none, none, none, none, none, none] ?_
 simp only [(id F_lTv), seval, cRat]
 repeat refine ob ?_
 refine ⟨_, h60, rfl, ?_⟩
 try unfold Later
 try simp only [(id F_lTv), seval, cRat]
 repeat refine ob ?_
 refine ⟨_, h40, rfl, ?_⟩
 try unfold Later
 try simp only [(id F_lTv), seval, cRat]
 repeat refine ob ?_
 refine awR [] [none, none, none] ?_
 simp only [(id F_lTv), seval, cRat]
 repeat refine ob ?_
 refine ⟨by obtain ⟨B, hB, hs⟩ := hnt; have := hbH nt B hB; exact ⟨B, by (repeat rw [if_neg (by omega)]); exact hB, hs⟩, ?_⟩
 refine awT ?_
 refine awR [] [none, none, none, none, none] ?_
 simp only [(id F_lTv), seval, cRat]
 repeat refine ob ?_
 refine awR [] [none, none] ?_
 simp only [(id F_lTv), seval, cRat]
 repeat refine ob ?_
 refine awp_on H [2] [802, 808, 815] (by intro y B h; right; have h9 := hbH y B h; simp only [up_apply]; (repeat rw [if_neg (by omega)]); exact h) ?_
 simp only [(id F_lTv), seval]
 refine awX ?_
 simp only [(id F_lTv), seval]
 exact ⟨_, _, _, _, rfl, rfl⟩
end Go.Proofs.YtokmkopihhnggaaGreatDoor
end
section
/- Plain: the members of an agreement in their order; the claims of an agreement counted. No walk. -/
namespace Go.Proofs.YtokmkopihhnggaaGreatDoor
open Go Go.RowKit
def rMs (a : GAgr) : Nat → Nat → List Int
  | 0, _ => []
  | n + 1, i => if mbA (i : Int) a = true then (i : Int) :: rMs a n (i + 1) else rMs a n (i + 1)
theorem rMs_mem (a : GAgr) : ∀ (n i : Nat) (c : Int), c ∈ rMs a n i ↔ (i : Int) ≤ c ∧ c < ((i + n : Nat) : Int) ∧ mbA c a = true
  | 0, i, c => by simp [rMs]; omega
  | n + 1, i, c => by
    have h1 := rMs_mem a n (i + 1) c
    rw [rMs]
    by_cases hc : c = (i : Int)
    · subst hc
      split
      · rename_i h; simp [h]; omega
      rename_i h; rw [h1]; simp [h]
    split
    · rw [List.mem_cons, h1]
      constructor
      · rintro (h | h)
        · exact absurd h hc
        exact ⟨by omega, by omega, h.2.2⟩
      exact fun h => .inr ⟨by omega, by omega, h.2.2⟩
    rw [h1]
    constructor
    · exact fun h => ⟨by omega, by omega, h.2.2⟩
    exact fun h => ⟨by omega, by omega, h.2.2⟩
theorem rMs_lt (a : GAgr) : ∀ n i, (rMs a n i).Pairwise (· < ·)
  | 0, _ => .nil
  | n + 1, i => by
    have h1 := rMs_lt a n (i + 1)
    rw [rMs]
    split
    · refine List.pairwise_cons.2 ⟨fun x hx => ?_, h1⟩
      have := (rMs_mem a n (i + 1) x).1 hx
      omega
    exact h1
theorem cpt_sorted {d : Array Int} (hs : ∀ i j (hi : i < d.size) (hj : j < d.size), i ≤ j → d[i] ≤ d[j]) : ∀ m, m ≤ d.size → (Lib.compactUpTo d m).Pairwise (· ≤ ·)
  | 0, _ => by simp [Lib.compactUpTo]
  | m + 1, hm => by
    have h1 := cpt_sorted hs m (by omega)
    have hlt : m < d.size := by omega
    rw [Lib.compactUpTo_succ]
    split
    · rw [List.pairwise_append]
      refine ⟨h1, by simp, fun x hx y hy => ?_⟩
      obtain ⟨j, hj, hjm, rfl⟩ := (cpt_sound m (by omega) hs).2 x hx
      simp only [List.mem_singleton] at hy
      subst hy
      rw [getElem!_pos d m hlt]
      exact hs j m hj hlt (by omega)
    rw [List.append_nil]; exact h1
theorem mbA_mem (a : GAgr) (c : Int) (hc : c ≠ -1) : mbA c a = true ↔ c ∈ mem a := by
  rw [mbA_flat, mbT_ids c hc, mem_iff]
  simp
theorem mem_eq {a : GAgr} {n : Nat} (h : ∀ t ∈ a, ∀ x ∈ t, inR n x.claim) : mem a = rMs a n 0 := by
  have hin : ∀ i ∈ mem a, 0 ≤ i ∧ i < (n : Int) := fun i hi => by
    obtain ⟨p, h1, h2, h3⟩ := mem_ids (mem_mem hi)
    obtain ⟨t, ht, hp⟩ := List.mem_flatten.1 h1
    rcases h t ht p hp with h4 | h4
    · exact absurd h4 h3
    rw [← h2]; exact h4
  refine List.Perm.eq_of_pairwise (le := fun x y => x ≤ y) (fun x y _ _ h1 h2 => Int.le_antisymm h1 h2) (cpt_sorted (sorted_mono _) _ (by simp)) ((rMs_lt a n 0).imp fun h => Int.le_of_lt h) ?_
  refine (List.perm_ext_iff_of_nodup (mem_nodup a) ((rMs_lt a n 0).imp fun h => by omega)).2 fun c => ?_
  rw [rMs_mem]
  constructor
  · intro hc
    have h1 := hin c hc
    exact ⟨by omega, by omega, (mbA_mem a c (by omega)).2 hc⟩
  intro hc
  exact (mbA_mem a c (by omega)).1 hc.2.2
end Go.Proofs.YtokmkopihhnggaaGreatDoor
end
section
/- Plain: the examples of the waterfall reckoned. No walk. -/
namespace Go.Proofs.YtokmkopihhnggaaGreatDoor
open Go Go.RowKit
def xP (i : Int) : GPart := ⟨i, false, gZ⟩
def xC (i : Int) (c : Rat) : GPart := ⟨i, true, enc c⟩
theorem ex_am : (exCl.map fun c => qOf c.amount) = [60, 40] := by simp [exCl, qOf_enc]
theorem ex_ranks : wRanks exCl = [[], [], [(0, 60), (1, 40)], [], [], [], [], []] := by
  simp [wRanks, List.range, List.range.loop, wRk, exCl, qOf_enc]
theorem ex_lay (ags : List GAgr) : wLay (exE ags) = ⟨2, [[], [], [(0, 60), (1, 40)], [], [], [], [], []], ags.map (wPool exCl), 100⟩ := by
  have h1 : wTotal exCl = 100 := by
    have : wTotal exCl = 60 + (40 + 0) := by simp [wTotal, exCl, qOf_enc]
    rw [this]; grind
  unfold wLay exE
  rw [ex_ranks, h1]
  rfl
theorem ex_pool (a : GAgr) (h : ∀ t ∈ a, ∀ x ∈ t, inR 2 x.claim) : wPool exCl a = (rMs a 2 0, (wTiers a [60, 40]).2 ++ [wLast (rMs a 2 0) (wTiers a [60, 40]).1]) := by
  unfold wPool
  rw [ex_am, mem_eq h]
def xB : GAgr := [[xP 1], [xP 0]]
noncomputable def xCC : GAgr := [[xC 1 15], [xP 0]]
noncomputable def xD : GAgr := [[xC (-1) 12], [xP 0, xP 1]]
theorem xB_pool : wPool exCl xB = ([0, 1], [[(1, 40)], [(0, 60)], [(0, 0), (1, 0)]]) := by
  rw [ex_pool xB (by simp [xB, xP, inR])]
  simp [rMs, mbA, mbT, xB, xP, wTiers, wTier, wPart, wLast, Rat.sub_self]
theorem xC_pool : wPool exCl xCC = ([0, 1], [[(1, 15)], [(0, 60)], [(0, 0), (1, 25)]]) := by
  have h1 : qmin 40 15 = 15 := by kernel_rfl
  have h2 : (40 : Rat) - 15 = 25 := by kernel_rfl
  rw [ex_pool xCC (by simp [xCC, xC, xP, inR])]
  simp [rMs, mbA, mbT, xCC, xC, xP, wTiers, wTier, wPart, wLast, qOf_enc, h1, h2, Rat.sub_self]
theorem xD_pool : wPool exCl xD = ([0, 1], [[(-1, 12)], [(0, 60), (1, 40)], [(0, 0), (1, 0)]]) := by
  rw [ex_pool xD (by simp [xD, xC, xP, inR])]
  simp [rMs, mbA, mbT, xD, xC, xP, wTiers, wTier, wPart, wLast, qOf_enc, Rat.sub_self]
theorem exA_del : (wDel (wLay (exE [])) ((50 : Int) : Rat)).cl = [((30 : Int) : Rat), ((20 : Int) : Rat)] := by
  rw [ex_lay]; kernel_rfl
theorem exB_del : (wDel (wLay (exE [xB])) ((50 : Int) : Rat)).cl = [((10 : Int) : Rat), ((40 : Int) : Rat)] := by
  rw [ex_lay, List.map_cons, xB_pool]; kernel_rfl
theorem exC_del : (wDel (wLay (exE [xCC])) ((50 : Int) : Rat)).cl = [((35 : Int) : Rat), ((15 : Int) : Rat)] := by
  rw [ex_lay, List.map_cons, xC_pool]; kernel_rfl
theorem exC_del2 : (wDel (wLay (exE [xCC])) ((95 : Int) : Rat)).cl = [((60 : Int) : Rat), ((35 : Int) : Rat)] := by
  rw [ex_lay, List.map_cons, xC_pool]; kernel_rfl
theorem exD_del : (wDel (wLay (exE [xD])) ((50 : Int) : Rat)).cl = [mkRat 114 5, mkRat 76 5] := by
  rw [ex_lay, List.map_cons, xD_pool]; kernel_rfl
theorem sgn_ok {q : Rat} (h : 0 ≤ q) : ¬ qSgn q < 0 := by
  unfold qSgn
  rw [qCmp_neg_iff]
  grind
def xOK (a : GAgr) : Prop := a.length ≤ 2 ∧ (∀ t ∈ a, t.length ≤ 2) ∧ ∀ t ∈ a, ∀ p ∈ t, (p.claim = -1 ∧ p.capped = true ∨ 0 ≤ p.claim ∧ p.claim < 2) ∧ sB 1 p.cap ∧ 0 ≤ qOf p.cap
theorem xP_ok (i : Int) (h : 0 ≤ i ∧ i < 2) : ((xP i).claim = -1 ∧ (xP i).capped = true ∨ 0 ≤ (xP i).claim ∧ (xP i).claim < 2) ∧ sB 1 (xP i).cap ∧ 0 ≤ qOf (xP i).cap := ⟨.inr h, sB_gZ, by show 0 ≤ qOf gZ; rw [qOf_gZ]; grind⟩
theorem xC_ok (i : Int) (c : Nat) (h : i = -1 ∨ 0 ≤ i ∧ i < 2) (hc : c < 256) : ((xC i ((c : Int) : Rat)).claim = -1 ∧ (xC i ((c : Int) : Rat)).capped = true ∨ 0 ≤ (xC i ((c : Int) : Rat)).claim ∧ (xC i ((c : Int) : Rat)).claim < 2) ∧ sB 1 (xC i ((c : Int) : Rat)).cap ∧ 0 ≤ qOf (xC i ((c : Int) : Rat)).cap :=
  ⟨h.imp (fun h => ⟨h, rfl⟩) id, sB_enc (qB_small c hc), by show 0 ≤ qOf (enc _); rw [qOf_enc]; exact_mod_cast Nat.zero_le c⟩
theorem xB_ok : xOK xB := ⟨by simp [xB], by simp [xB], by
  intro t ht p hp
  simp only [xB, List.mem_cons, List.not_mem_nil, or_false] at ht
  rcases ht with rfl | rfl <;> simp only [List.mem_cons, List.not_mem_nil, or_false] at hp <;> subst hp
  · exact xP_ok 1 (by decide)
  exact xP_ok 0 (by decide)⟩
theorem xC_okA : xOK xCC := ⟨by simp [xCC], by simp [xCC], by
  intro t ht p hp
  simp only [xCC, List.mem_cons, List.not_mem_nil, or_false] at ht
  rcases ht with rfl | rfl <;> simp only [List.mem_cons, List.not_mem_nil, or_false] at hp <;> subst hp
  · exact xC_ok 1 15 (by decide) (by decide)
  exact xP_ok 0 (by decide)⟩
theorem xD_ok : xOK xD := ⟨by simp [xD], by simp [xD], by
  intro t ht p hp
  simp only [xD, List.mem_cons, List.not_mem_nil, or_false] at ht
  rcases ht with rfl | rfl <;> simp only [List.mem_cons, List.not_mem_nil, or_false] at hp
  · subst hp; exact xC_ok (-1) 12 (by decide) (by decide)
  rcases hp with rfl | rfl
  · exact xP_ok 0 (by decide)
  exact xP_ok 1 (by decide)⟩
theorem ca_zero : ∀ l : List GPart, (∀ p ∈ l, (p.claim = -1 ∧ p.capped = true ∨ 0 ≤ p.claim ∧ p.claim < 2) ∧ 0 ≤ qOf p.cap) → caLoop [false, false] l = 0
  | [], _ => rfl
  | p :: l, h => by
    obtain ⟨h1, h2⟩ := h p (by simp)
    have h3 := sgn_ok h2
    have h4 : ¬ (p.claim ≠ -1 ∧ (p.claim < 0 ∨ (([false, false] : List Bool).length : Int) ≤ p.claim)) := by simp only [List.length_cons, List.length_nil]; omega
    have h5 : ¬ (p.claim = -1 ∧ p.capped = false) := by
      rintro ⟨h6, h7⟩
      rcases h1 with h1 | h1
      · rw [h1.2] at h7; cases h7
      omega
    have h6 : ¬ (p.claim ≠ -1 ∧ ([false, false] : List Bool).getD p.claim.toNat false = true) := by
      rintro ⟨h7, h8⟩
      rcases h1 with h1 | h1
      · exact h7 h1.1
      have h9 : p.claim.toNat = 0 ∨ p.claim.toNat = 1 := by omega
      rcases h9 with h9 | h9 <;> rw [h9] at h8 <;> cases h8
    rw [caLoop, if_neg h4, if_neg h5, if_neg (fun h => h3 h.2), if_neg h6]
    exact ca_zero l fun x hx => h x (by simp [hx])
theorem ex_cl : wcClaims exCl = 0 := by
  have h1 : ¬ qSgn 60 < 0 := sgn_ok (by grind)
  have h2 : ¬ qSgn 40 < 0 := sgn_ok (by grind)
  simp [wcClaims, exCl, qOf_enc, h1, h2]
theorem ex_wc (ags : List GAgr) (h : ags.length ≤ 1) (hx : ∀ a ∈ ags, xOK a) : wcSpec (exE ags) = 0 := by
  have h0 : ¬ qSgn (qOf gZ) < 0 := by rw [qOf_gZ]; exact sgn_ok (by grind)
  have h1 : ¬ (24 < (exE ags).claims.length ∨ 12 < (exE ags).agrs.length) := by
    show ¬ (24 < 2 ∨ 12 < ags.length)
    omega
  have h2 : ¬ wcClaims (exE ags).claims ≠ 0 := fun h => h ex_cl
  unfold wcSpec
  rw [if_neg h1, if_neg (show ¬ qSgn (qOf (exE ags).cash) < 0 from h0), if_neg h2]
  show wcAgrs [false, false] ags = 0
  match ags, h, hx with
  | [], _, _ => rfl
  | [a], _, hx =>
    obtain ⟨g1, g2, g3⟩ := hx a (by simp)
    have hc : caSpec a [false, false] = 0 := by
      unfold caSpec
      have h3 : ¬ (24 < a.length ∨ a.any longT = true) := by
        rintro (h | h)
        · omega
        obtain ⟨t, ht, hl⟩ := List.any_eq_true.1 h
        have := g2 t ht
        unfold longT at hl
        simp only [decide_eq_true_eq] at hl
        omega
      rw [if_neg h3]
      exact ca_zero _ fun p hp => by
        obtain ⟨t, ht, hp⟩ := List.mem_flatten.1 hp
        have := g3 t ht p hp
        exact ⟨this.1, this.2.2⟩
    simp only [wcAgrs, hc, ne_eq, not_true_eq_false, if_false]
theorem sB1_ratOK {r : GRat} (h : sB 1 r) : ratOK r := ⟨Nat.le_trans h.1 (by decide), Nat.le_trans h.2 (by decide)⟩
theorem ex_in (ags : List GAgr) (h : ags.length ≤ 1) (hx : ∀ a ∈ ags, xOK a) : eIn (exE ags) 1 2 24 12 := by
  have hc : ∀ c ∈ (exE ags).claims, sB 1 c.amount := fun c hc => by
    simp only [exE, exCl, List.mem_cons, List.not_mem_nil, or_false] at hc
    rcases hc with rfl | rfl
    · exact sB_enc (qB_small 60 (by decide))
    exact sB_enc (qB_small 40 (by decide))
  have h2 : (exE ags).claims.length = 2 := rfl
  have hl : (exE ags).agrs.length ≤ 1 := h
  refine ⟨⟨sB1_ratOK sB_gZ, fun c h => sB1_ratOK (hc c h), by omega, fun a ha => ⟨fun t ht => by have := (hx a ha).2.1 t ht; omega, fun p hp => ?_⟩⟩, ⟨sB_gZ, hc, fun a ha t ht p hp => ((hx a ha).2.2 t ht p hp).2.1⟩, by decide, by decide, by omega, by decide, by omega, by decide, by decide, by decide⟩
  obtain ⟨t, ht, hp⟩ := List.mem_flatten.1 hp
  exact sB1_ratOK ((hx a ha).2.2 t ht p hp).2.1
theorem mPos_int (m : Nat) : mPos (enc ((m : Int) : Rat)) = ((m : Int) : Rat) := by
  have h : (0 : Rat) ≤ ((m : Int) : Rat) := by exact_mod_cast Nat.zero_le m
  unfold mPos qmax
  rw [qOf_enc]
  split <;> grind
end Go.Proofs.YtokmkopihhnggaaGreatDoor
end
section
/- The waterfall's examples hold; walked by the abstract machine. -/
namespace Go.Proofs.YtokmkopihhnggaaGreatDoor
open Go Go.RowKit
theorem aRatio (a b : Nat) (ha : a ≤ 9223372036854775807) (hb : b ≤ 9223372036854775807) (hd : 0 < b) : ACall Tryz.prog 40 [.one (.lit (.int .i64 a)), .one (.lit (.int .i64 b))] (.val (.agg (cRat (enc (mkRat (a : Int) b))))) :=
  acall_flat (fnOK_of Tryz.func40 (by decide) (by kernel_rfl)) [.int .i64 a, .int .i64 b] (vRat (enc (mkRat (a : Int) b))) fun w => Ratio_ok a b w ha hb hd
def F_lAw17 := And.intro zS (And.intro tf2 (And.intro tf0 (And.intro tf87 (And.intro tf88 (tf5)))))
set_option maxRecDepth 100000 in
set_option maxHeartbeats 4000000 in
theorem awake17_A : ACall Tryz.prog 27 [] (one (.bool true)) := by
 refine acall_of Tryz.func27 rfl (by decide) (N := 65) rfl (by simp) (R := [.tmp 0]) rfl fun en k0 => ?_
 refine awR [] [none] ?_
 simp only [(id F_lAw17), seval]
 repeat refine ob ?_
 refine awR [] [none, none, none] ?_
 simp only [(id F_lAw17), seval]
 repeat refine ob ?_
 refine awR [] [none, none, none] ?_
 simp only [(id F_lAw17), seval]
 repeat refine ob ?_
 refine awp_pub (t := 2) (by rfl) (by rfl) (by decide) (by rfl) ?_
 simp only [(id F_lAw17), seval]
 refine awR [] [none, none, none, none] ?_
 simp only [(id F_lAw17), seval, cRat]
 repeat refine ob ?_
 refine ⟨_, (aIntQ 15 (by decide) (by decide)), rfl, ?_⟩
 try unfold Later
 try simp only [(id F_lAw17), seval, cRat]
 repeat refine ob ?_
 refine awp_pub (t := 3) (by rfl) (by rfl) (by decide) (by rfl) ?_
 simp only [(id F_lAw17), seval]
 refine awR [] [none, none, none, none] ?_
 simp only [(id F_lAw17), seval, cRat]
 repeat refine ob ?_
 refine ⟨_, (aIntQ 12 (by decide) (by decide)), rfl, ?_⟩
 try unfold Later
 try simp only [(id F_lAw17), seval, cRat]
 repeat refine ob ?_
 refine awp_pub (t := 4) (by rfl) (by rfl) (by decide) (by rfl) ?_
 simp only [(id F_lAw17), seval]
 refine awR [] [none, none, none, none, none] ?_
 simp only [(id F_lAw17), seval, cRat, cEst, flat_pure cClaim_pure, flat_pure cAgr_pure]
 repeat refine ob ?_
 refine ⟨_, two_A, rfl, ?_⟩
 try unfold Later
 try simp only [(id F_lAw17), seval, cRat, cEst, flat_pure cClaim_pure, flat_pure cAgr_pure]
 repeat refine ob ?_
 refine ⟨_, (aIntQ 30 (by decide) (by decide)), rfl, ?_⟩
 try unfold Later
 try simp only [(id F_lAw17), seval, cRat, cEst, flat_pure cClaim_pure, flat_pure cAgr_pure]
 repeat refine ob ?_
 refine ⟨_, (aIntQ 20 (by decide) (by decide)), rfl, ?_⟩
 try unfold Later
 try simp only [(id F_lAw17), seval, cRat, cEst, flat_pure cClaim_pure, flat_pure cAgr_pure]
 repeat refine ob ?_
 refine ⟨_, (pays_A (exE []) ((50 : Nat) : Int) (((30 : Int) : Rat)) (((20 : Int) : Rat)) (by decide) (ex_in [] (by simp) (by simp)) (ex_wc [] (by simp) (by simp)) (qB.mono (qB_small 50 (by decide)) (by decide)) (mPos_int 50) rfl exA_del), rfl, ?_⟩
 try unfold Later
 try simp only [(id F_lAw17), seval, cRat, cEst, flat_pure cClaim_pure, flat_pure cAgr_pure]
 repeat refine ob ?_
 refine awR [26, 29] [none, none, none, none, none, none, none, none] ?_
 simp only [(id F_lAw17), seval, cRat, cEst]
 repeat refine ob ?_
 refine ⟨_, two_I _ _ 25 _ ⟨_, by rfl, rfl⟩ (fun y B h => ?_), ?_⟩
 ·
  by_cases hy : y < 700
  ·
   exact hy
  exfalso
  simp only [up_apply] at h
  repeat rw [if_neg (by omega)] at h
  cases h
 rintro res H' nx' ⟨sx, sy, s2, cs2, rfl, rfl⟩
 simp only [(id F_lAw17), seval, (id SD)]
 repeat refine ob ?_
 refine ⟨_, (aIntQ 10 (by decide) (by decide)), rfl, ?_⟩
 try unfold Later
 try simp only [(id F_lAw17), seval, cRat, cEst]
 repeat refine ob ?_
 refine ⟨_, (aIntQ 40 (by decide) (by decide)), rfl, ?_⟩
 try unfold Later
 try simp only [(id F_lAw17), seval, cRat, cEst]
 repeat refine ob ?_
 refine ⟨_, acallI_borrow (pays_A (exE [xB]) ((50 : Nat) : Int) (((10 : Int) : Rat)) (((40 : Int) : Rat)) (by decide) (ex_in [xB] (by simp) (by simpa using xB_ok)) (ex_wc [xB] (by simp) (by simpa using xB_ok)) (qB.mono (qB_small 50 (by decide)) (by decide)) (mPos_int 50) rfl exB_del) rfl (fun e σ w vs hW hd => ?_), ?_⟩
 ·
  obtain ⟨v1, vs1, rfl, d1, hd1⟩ := den1s_cons hd
  obtain ⟨v2, vs2, rfl, d2, hd2⟩ := den1s_cons hd1
  obtain ⟨v3, vs3, rfl, d3, hd3⟩ := den1s_cons hd2
  obtain ⟨v4, vs4, rfl, d4, hd4⟩ := den1s_cons hd3
  obtain ⟨us, rfl, du⟩ := d1
  exact ⟨⟨us, rfl, exE_read (nt := 25) (na := 10) (n1 := 708) (n2 := 715) (t1 := [xP 1]) (t2 := [xP 0]) hW du (by rfl) (by rfl) (by rfl) (by rfl)⟩, den1_pure kx_all (by rfl) d2, den1_pure kx_all (by rfl) d3, den1_pure kx_all (by rfl) d4, (by cases vs4 with | nil => exact trivial | cons v vs => exact hd4.elim)⟩
 rintro res H' nx' ⟨rfl, rfl, rfl⟩
 simp only [(id F_lAw17), seval, (id SD)]
 repeat refine ob ?_
 refine awp_keep [0, 1, 2, 3, 4, 5, 6] [10] ?_
 simp only [(id F_lAw17), seval]
 refine awR [33, 36, 41, 44] [none, none, none, none, none, none, none, none, some (37, true), some (37, true), some (37, true), some (37, true), some (37, true), some (37, true), some (37, true), none, none] ?_
 simp only [(id F_lAw17), seval, cRat, cEst]
 repeat refine ob ?_
 refine ⟨_, two_I _ _ 32 _ ⟨_, by rfl, rfl⟩ (fun y B h => ?_), ?_⟩
 ·
  by_cases hy : y < 700
  ·
   exact hy
  exfalso
  simp only [up_apply] at h
  repeat rw [if_neg (by omega)] at h
  cases h
 rintro res H' nx' ⟨sx, sy, s2, cs2, rfl, rfl⟩
 simp only [(id F_lAw17), seval, (id SD)]
 repeat refine ob ?_
 refine ⟨_, (aIntQ 35 (by decide) (by decide)), rfl, ?_⟩
 try unfold Later
 try simp only [(id F_lAw17), seval, cRat, cEst]
 repeat refine ob ?_
 refine ⟨_, (aIntQ 15 (by decide) (by decide)), rfl, ?_⟩
 try unfold Later
 try simp only [(id F_lAw17), seval, cRat, cEst]
 repeat refine ob ?_
 refine ⟨_, acallI_borrow (pays_A (exE [xCC]) ((50 : Nat) : Int) (((35 : Int) : Rat)) (((15 : Int) : Rat)) (by decide) (ex_in [xCC] (by simp) (by simpa using xC_okA)) (ex_wc [xCC] (by simp) (by simpa using xC_okA)) (qB.mono (qB_small 50 (by decide)) (by decide)) (mPos_int 50) rfl exC_del) rfl (fun e σ w vs hW hd => ?_), ?_⟩
 ·
  obtain ⟨v1, vs1, rfl, d1, hd1⟩ := den1s_cons hd
  obtain ⟨v2, vs2, rfl, d2, hd2⟩ := den1s_cons hd1
  obtain ⟨v3, vs3, rfl, d3, hd3⟩ := den1s_cons hd2
  obtain ⟨v4, vs4, rfl, d4, hd4⟩ := den1s_cons hd3
  obtain ⟨us, rfl, du⟩ := d1
  exact ⟨⟨us, rfl, exE_read (nt := 32) (na := 10) (n1 := 708) (n2 := 715) (t1 := [xC 1 15]) (t2 := [xP 0]) hW du (by rfl) (by rfl) (by rfl) (by rfl)⟩, den1_pure kx_all (by rfl) d2, den1_pure kx_all (by rfl) d3, den1_pure kx_all (by rfl) d4, (by cases vs4 with | nil => exact trivial | cons v vs => exact hd4.elim)⟩
 rintro res H' nx' ⟨rfl, rfl, rfl⟩
 simp only [(id F_lAw17), seval, (id SD)]
 repeat refine ob ?_
 refine ⟨_, two_J _ _ 40 _ ⟨_, by rfl, rfl⟩ (fun y B h => ?_), ?_⟩
 ·
  by_cases hy : y < 800
  ·
   exact hy
  exfalso
  simp only [up_apply] at h
  repeat rw [if_neg (by omega)] at h
  cases h
 rintro res H' nx' ⟨sx, sy, s2, cs2, rfl, rfl⟩
 simp only [(id F_lAw17), seval, (id SD)]
 repeat refine ob ?_
 refine ⟨_, (aIntQ 60 (by decide) (by decide)), rfl, ?_⟩
 try unfold Later
 try simp only [(id F_lAw17), seval, cRat, cEst]
 repeat refine ob ?_
 refine ⟨_, (aIntQ 35 (by decide) (by decide)), rfl, ?_⟩
 try unfold Later
 try simp only [(id F_lAw17), seval, cRat, cEst]
 repeat refine ob ?_
 refine ⟨_, acallI_borrow (pays_A (exE [xCC]) ((95 : Nat) : Int) (((60 : Int) : Rat)) (((35 : Int) : Rat)) (by decide) (ex_in [xCC] (by simp) (by simpa using xC_okA)) (ex_wc [xCC] (by simp) (by simpa using xC_okA)) (qB.mono (qB_small 95 (by decide)) (by decide)) (mPos_int 95) rfl exC_del2) rfl (fun e σ w vs hW hd => ?_), ?_⟩
 ·
  obtain ⟨v1, vs1, rfl, d1, hd1⟩ := den1s_cons hd
  obtain ⟨v2, vs2, rfl, d2, hd2⟩ := den1s_cons hd1
  obtain ⟨v3, vs3, rfl, d3, hd3⟩ := den1s_cons hd2
  obtain ⟨v4, vs4, rfl, d4, hd4⟩ := den1s_cons hd3
  obtain ⟨us, rfl, du⟩ := d1
  exact ⟨⟨us, rfl, exE_read (nt := 40) (na := 10) (n1 := 808) (n2 := 815) (t1 := [xC 1 15]) (t2 := [xP 0]) hW du (by rfl) (by rfl) (by rfl) (by rfl)⟩, den1_pure kx_all (by rfl) d2, den1_pure kx_all (by rfl) d3, den1_pure kx_all (by rfl) d4, (by cases vs4 with | nil => exact trivial | cons v vs => exact hd4.elim)⟩
 rintro res H' nx' ⟨rfl, rfl, rfl⟩
 simp only [(id F_lAw17), seval, (id SD)]
 repeat refine ob ?_
 refine awp_keep [0, 1, 2, 3, 4, 5, 6, 7] [10] ?_
 simp only [(id F_lAw17), seval]
 refine awR [51, 54] [none, none, none, none, none, none, none, none, none, none] ?_
 simp only [(id F_lAw17), seval, cRat, cEst]
 repeat refine ob ?_
 refine ⟨_, two_I _ _ 50 _ ⟨_, by rfl, rfl⟩ (fun y B h => ?_), ?_⟩
 ·
  by_cases hy : y < 700
  ·
   exact hy
  exfalso
  simp only [up_apply] at h
  repeat rw [if_neg (by omega)] at h
  cases h
 rintro res H' nx' ⟨sx, sy, s2, cs2, rfl, rfl⟩
 simp only [(id F_lAw17), seval, (id SD)]
 repeat refine ob ?_
 refine ⟨_, (aRatio 114 5 (by decide) (by decide) (by decide)), rfl, ?_⟩
 try unfold Later
 try simp only [(id F_lAw17), seval, cRat, cEst]
 repeat refine ob ?_
 refine ⟨_, (aRatio 76 5 (by decide) (by decide) (by decide)), rfl, ?_⟩
 try unfold Later
 try simp only [(id F_lAw17), seval, cRat, cEst]
 repeat refine ob ?_
 refine ⟨_, acallI_borrow (pays_A (exE [xD]) ((50 : Nat) : Int) (mkRat 114 5) (mkRat 76 5) (by decide) (ex_in [xD] (by simp) (by simpa using xD_ok)) (ex_wc [xD] (by simp) (by simpa using xD_ok)) (qB.mono (qB_small 50 (by decide)) (by decide)) (mPos_int 50) rfl exD_del) rfl (fun e σ w vs hW hd => ?_), ?_⟩
 ·
  obtain ⟨v1, vs1, rfl, d1, hd1⟩ := den1s_cons hd
  obtain ⟨v2, vs2, rfl, d2, hd2⟩ := den1s_cons hd1
  obtain ⟨v3, vs3, rfl, d3, hd3⟩ := den1s_cons hd2
  obtain ⟨v4, vs4, rfl, d4, hd4⟩ := den1s_cons hd3
  obtain ⟨us, rfl, du⟩ := d1
  exact ⟨⟨us, rfl, exE_read (nt := 50) (na := 49) (n1 := 708) (n2 := 715) (t1 := [xC (-1) 12]) (t2 := [xP 0, xP 1]) hW du (by rfl) (by rfl) (by rfl) (by rfl)⟩, den1_pure kx_all (by rfl) d2, den1_pure kx_all (by rfl) d3, den1_pure kx_all (by rfl) d4, (by cases vs4 with | nil => exact trivial | cons v vs => exact hd4.elim)⟩
 rintro res H' nx' ⟨rfl, rfl, rfl⟩
 simp only [(id F_lAw17), seval, (id SD)]
 repeat refine ob ?_
 refine awp_keep [0, 5, 6, 7, 8] [] ?_
 simp only [(id F_lAw17), seval]
 refine awR [] [none, none, some (56, true), none, none, some (59, true), none, none, some (62, true), none, none] ?_
 simp only [(id F_lAw17), seval]
 repeat refine ob ?_
 refine awX ?_
 (first | (simp only [(id F_lAw17), seval]; done) | (simp only [(id F_lAw17), seval]; first | (simp []; done)))
end Go.Proofs.YtokmkopihhnggaaGreatDoor
end
section
/- Plain: which numbers of claims, agreements, tiers and parts the check accepts. No walk. -/
namespace Go.Proofs.YtokmkopihhnggaaGreatDoor
open Go Go.RowKit
def mP : GPart := ⟨-1, true, gZ⟩
def mC : GClaim := ⟨0, 0, gZ⟩
def mA (t p : Nat) : GAgr := if t = 0 then [] else List.replicate p mP :: List.replicate (t - 1) []
def mAs (a t p : Nat) : List GAgr := if a = 0 then [] else mA t p :: List.replicate (a - 1) []
def mE (n a t p : Nat) : GEst := ⟨gZ, List.replicate n mC, mAs a t p⟩
def mLg (n a t p : Nat) : Bool := decide (24 < n ∨ 12 < a ∨ (0 < a ∧ (24 < t ∨ (0 < t ∧ 24 < p))))
theorem mA_len (t p : Nat) : (mA t p).length = t := by
  unfold mA
  split
  · rename_i h; rw [h]; rfl
  rw [List.length_cons, List.length_replicate]; omega
theorem mAs_len (a t p : Nat) : (mAs a t p).length = a := by
  unfold mAs
  split
  · rename_i h; rw [h]; rfl
  rw [List.length_cons, List.length_replicate]; omega
theorem m_gZ : ¬ qSgn (qOf gZ) < 0 := by rw [qOf_gZ]; exact sgn_ok (by grind)
theorem m_cl : ∀ n, wcClaims (List.replicate n mC) = 0
  | 0 => rfl
  | n + 1 => by
    rw [List.replicate_succ, wcClaims, m_cl n]
    have h1 : ¬ (mC.holder < -1 ∨ 8 ≤ mC.holder) := by decide
    have h2 : ¬ (mC.rank < 0 ∨ 7 < mC.rank) := by decide
    rw [if_neg h1, if_neg h2, if_neg (show ¬ qSgn (qOf mC.amount) < 0 from m_gZ)]
theorem m_pt (tk : List Bool) : ∀ p, caLoop tk (List.replicate p mP) = 0
  | 0 => rfl
  | p + 1 => by
    rw [List.replicate_succ, caLoop, m_pt tk p]
    have h1 : ¬ (mP.claim ≠ -1 ∧ (mP.claim < 0 ∨ (tk.length : Int) ≤ mP.claim)) := fun h => h.1 rfl
    have h2 : ¬ (mP.claim = -1 ∧ mP.capped = false) := fun h => by cases h.2
    have h4 : ¬ (mP.claim ≠ -1 ∧ tk.getD mP.claim.toNat false = true) := fun h => h.1 rfl
    rw [if_neg h1, if_neg h2, if_neg (fun h => m_gZ h.2), if_neg h4]
theorem m_nils : ∀ k, (List.replicate k ([] : List GPart)).flatten = []
  | 0 => rfl
  | k + 1 => by rw [List.replicate_succ, List.flatten_cons, m_nils k]; rfl
theorem m_flat (t p : Nat) : (mA t p).flatten = if t = 0 then [] else List.replicate p mP := by
  unfold mA
  split
  · rfl
  rw [List.flatten_cons, m_nils, List.append_nil]
theorem m_any (t p : Nat) : (mA t p).any longT = true ↔ 0 < t ∧ 24 < p := by
  unfold mA
  split
  · rename_i h; simp [h]
  rename_i h
  rw [List.any_cons]
  have h1 : (List.replicate (t - 1) ([] : List GPart)).any longT = false := by
    rw [List.any_eq_false]
    intro x hx
    rw [List.eq_of_mem_replicate hx]
    decide
  rw [h1]
  unfold longT
  simp only [List.length_replicate, Bool.or_false, decide_eq_true_eq]
  omega
theorem m_ca (tk : List Bool) (t p : Nat) : caSpec (mA t p) tk = if 24 < t ∨ (0 < t ∧ 24 < p) then 2 else 0 := by
  unfold caSpec
  simp only [mA_len, m_any, m_flat]
  split
  · rfl
  split
  · rfl
  exact m_pt tk p
theorem m_rest : ∀ (k : Nat) (tk : List Bool), wcAgrs tk (List.replicate k []) = 0
  | 0, _ => rfl
  | k + 1, tk => by
    have h1 : caSpec [] tk = 0 := rfl
    rw [List.replicate_succ, wcAgrs, if_neg (by rw [h1]; simp)]
    exact m_rest k _
theorem m_spec (n a t p : Nat) : wcSpec (mE n a t p) = if mLg n a t p = true then 2 else 0 := by
  have hn : (mE n a t p).claims.length = n := List.length_replicate
  have ha : (mE n a t p).agrs.length = a := mAs_len a t p
  unfold wcSpec mLg
  simp only [decide_eq_true_eq]
  rw [hn, ha]
  by_cases h1 : 24 < n ∨ 12 < a
  · rw [if_pos h1, if_pos (by omega)]
  have hz : ¬ qSgn (qOf (mE n a t p).cash) < 0 := m_gZ
  have hc : ¬ wcClaims (mE n a t p).claims ≠ 0 := fun h => h (m_cl n)
  rw [if_neg h1, if_neg hz, if_neg hc]
  show wcAgrs _ (mAs a t p) = _
  unfold mAs
  by_cases h0 : a = 0
  · rw [if_pos h0, if_neg (by omega)]; rfl
  rw [if_neg h0, wcAgrs]
  have hm := m_ca (List.replicate n false) t p
  by_cases h2 : 24 < t ∨ (0 < t ∧ 24 < p)
  · rw [if_pos h2] at hm
    rw [hm, if_pos (by decide), if_pos (by omega)]
  rw [if_neg h2] at hm
  rw [hm, if_neg (by decide), m_rest, if_neg (by omega)]
theorem m_ok (n a t p : Nat) (hn : n ≤ 1000) (ht : t ≤ 1000) (hp : p ≤ 1000) : estOK (mE n a t p) := by
  have hz : ratOK gZ := ratOK_gZ
  refine ⟨hz, fun c hc => by rw [List.eq_of_mem_replicate hc]; exact hz, by show (List.replicate n mC).length ≤ _; rw [List.length_replicate]; omega, fun x hx => ?_⟩
  have hx' : x = mA t p ∨ x = [] := by
    have hx2 : x ∈ mAs a t p := hx
    unfold mAs at hx2
    split at hx2
    · cases hx2
    rcases List.mem_cons.1 hx2 with h | h
    · exact .inl h
    exact .inr (List.eq_of_mem_replicate h)
  rcases hx' with rfl | rfl
  · refine ⟨fun y hy => ?_, fun q hq => ?_⟩
    · unfold mA at hy
      split at hy
      · cases hy
      rcases List.mem_cons.1 hy with rfl | h
      · rw [List.length_replicate]; omega
      rw [List.eq_of_mem_replicate h]; simp
    rw [m_flat] at hq
    split at hq
    · cases hq
    rw [List.eq_of_mem_replicate hq]; exact hz
  exact ⟨fun y hy => (by cases hy), fun q hq => (by cases hq)⟩
end Go.Proofs.YtokmkopihhnggaaGreatDoor
end
